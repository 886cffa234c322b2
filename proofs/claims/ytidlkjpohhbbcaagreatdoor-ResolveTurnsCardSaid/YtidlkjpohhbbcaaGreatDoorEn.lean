/- A part of the proof. -/
import Derived.OwnWalkIn
import Derived.RangeFuncNested
import Derived.RangeFuncCalls
import Derived.RangeFuncLeaves
import Derived.Test.YtidlkjpohhbbcaaGreatDoorQ9
set_option linter.all false
set_option maxHeartbeats 8000000
set_option maxRecDepth 10000
namespace Go.Scarf.Fn
open Go.RowKit Go.Scarf
def Fw(r:Option Nat):Fence:={ Fence.wide with round:=r }
theorem Fw.none:Fw none=Fence.wide:=rfl
theorem Fw.some(l:Nat):Fw (some l)=Fence.wide.inRound l:=rfl
theorem VJ{r:Option Nat}{m:Nat}{P:Program}{f:FuncId}{args:Array Value}{w:World}{Q:Ending->World->Prop}(h:Calls P f args w Q):CallsIn (Fw r) m P f args w Q:=by
  have h1:CallsIn Fence.wide m P f args w Q:=callsIn_wide.2 h;exact h1
def Sz(n:Nat)(s:Nat->Value)(ds:List Deferred):Act:=⟨Array.ofFn (n:=n) λi=>s i.val,ds⟩
theorem Mp(n:Nat)(s:Nat->Value)(ds:List Deferred):(Sz n s ds).eval=ev n s:=by
  rw[<-Yl n s];rfl
theorem Cx(n:Nat)(s:Nat->Value)(ds:List Deferred)(d:Option Nat)(v:Value):(Sz n s ds).put d v=Sz n (E2 s d v) ds:=by
  have h:=Ok n s d v;cases d with
  | none=>rfl
  | some d =>
    simp only[Act.put,Kl,Sz,Act.mk.injEq,and_true]at h ⊢;exact h
def post(r:Option Nat)(m:Nat)(ds:List Deferred)(P:Program)(R:Exit->Act->World->Prop)(n:Nat):Kt->Exit->Act->World->Prop
  | .done=>R
  | .seq y k=>Exit.then (y.wpIn (Fw r) m P (post r m ds P R n k)) (post r m ds P R n k)
  | .block id k=>Exit.inBlock id (post r m ds P R n k)
  | .inv n' I k=>Exit.then (λa w=>∃s,a=Sz n' s ds/\I s w) (post r m ds P R n k)
section
variable (r:Option Nat)(m:Nat)(ds:List Deferred)(P:Program)(R:Exit->Act->World->Prop)(n:Nat)
def Cg(c:Code)(k:Kt)(s:Nat->Value)(w:World):Prop:=c.wpIn (Fw r) m P (post r m ds P R n k) (Sz n s ds) w
def Eg(e:Exit)(k:Kt)(s:Nat->Value)(w:World):Prop:=post r m ds P R n k e (Sz n s ds) w
def Og(ops:List Oper)(k:Kt)(rest:List Oper)(s:Nat->Value)(w:World):Prop:=wpListIn (Fw r) m P ops.toArray (post r m ds P R n k) rest (Sz n s ds) w
end
section
variable {r:Option Nat}{m:Nat}{ds:List Deferred}{P:Program}{R:Exit->Act->World->Prop}{n:Nat}{k:Kt}{s:Nat->Value}{w:World}
theorem Ga{x y:Code}(h:Cg r m ds P R n x (.seq y k) s w):Cg r m ds P R n (.seq x y) k s w:=wpIn_seq h
theorem Qa{id:Nat}{c:Code}(h:Cg r m ds P R n c (.block id k) s w):Cg r m ds P R n (.block id c) k s w:=wpIn_block h
theorem Ka(h:Eg r m ds P R n .normal k s w):Cg r m ds P R n .skip k s w:=wpIn_skip h
theorem Db(h:Eg r m ds P R n .ret k s w):Cg r m ds P R n .ret k s w:=wpIn_ret h
theorem Bc{id:Nat}(h:Eg r m ds P R n (.exit id) k s w):Cg r m ds P R n (.exit id) k s w:=wpIn_exit h
theorem Ja{id:Nat}{l:List Oper}(h:Og r m ds P R n l k l s w):Cg r m ds P R n (.region id l.toArray false) k s w:=wpIn_region_lit h
theorem Yd{c:Operand}{x y:Code}(hc:ev n s c=.bool true)(h:Cg r m ds P R n x k s w):Cg r m ds P R n (.cond c x y) k s w:=wpIn_cond_true (by rw[Mp];exact hc) h
theorem Zd{c:Operand}{x y:Code}(hc:ev n s c=.bool false)(h:Cg r m ds P R n y k s w):Cg r m ds P R n (.cond c x y) k s w:=wpIn_cond_false (by rw[Mp];exact hc) h
theorem Ha{y:Code}(h:Cg r m ds P R n y k s w):Eg r m ds P R n .normal (.seq y k) s w:=h
theorem Ya{id:Nat}(h:Eg r m ds P R n .normal k s w):Eg r m ds P R n .normal (.block id k) s w:=h
theorem Ta{I:(Nat->Value)->World->Prop}(h:I s w):Eg r m ds P R n .normal (.inv n I k) s w:=⟨s,rfl,h⟩
theorem Kh(h:R .normal (Sz n s ds) w):Eg r m ds P R n .normal .done s w:=h
theorem Cb:∀{k:Kt},R .ret (Sz n s ds) w->Eg r m ds P R n .ret k s w
  | .done,h=>h
  | .seq _ k,h=>Cb (k:=k) h
  | .block _ k,h=>Cb (k:=k) h
  | .inv _ _ k,h=>Cb (k:=k) h
theorem Yb{id:Nat}:∀{k k':Kt},k.out id=some k'->Eg r m ds P R n .normal k' s w->Eg r m ds P R n (.exit id) k s w
  | .done,_,h,_=>by cases h
  | .seq _ k,_,h,g=>Yb (k:=k) h g
  | .block id' k, k', h, g => by
    simp only[Kt.out]at h;show (if id=id' then post r m ds P R n k .normal (Sz n s ds) w else post r m ds P R n k (.exit id) (Sz n s ds) w);by_cases hid:id'=id
    ·rw[if_pos hid]at h;rw[if_pos hid.symm]
     cases h;exact g
    rw[if_neg hid]at h;rw[if_neg (λe => hid e.symm)];exact Yb (k:=k) h g
  | .inv _ _ k,_,h,g=>Yb (k:=k) h g
theorem Fc{c:Code}(I:Nat->(Nat->Value)->World->Prop)(j0:Nat)(h0:I j0 s w)
    (round:∀j s w,I j s w->Cg r m ds P R n c (.inv n (λs' w'=>∃j',j'<j/\I j' s' w') k) s w):Cg r m ds P R n (.loop c) k s w:=by
  intro b kk cs hro hb hr;have key:∀j s w,I j s w->∃e a' w',post r m ds P R n k e a' w'/\ArrivesIn (Machine.fenced P (Fw r)) P (lone (b.atR (Sz n s ds) (.code c::.inLoop c::kk)) cs w) b kk cs e a' w':=by
    intro j
    induction j using Nat.strongRecOn with
    | _ j ih =>
      intro s w hI;obtain⟨e,a₁,w₁,hq,harr⟩:=round j s w hI b (.inLoop c::kk) cs hro hb hr;cases e with
      | normal =>
        obtain⟨s₁,rfl,j',hlt,hI₁⟩:=hq;obtain⟨e₂,a₂,w₂,hq₂,harr₂⟩:=ih j' hlt s₁ w₁ hI₁;exact⟨e₂,a₂,w₂,hq₂,.of_steps (StepsIn.trans harr (.one (fenced_calm hb hr O) stepR_inLoop)) harr₂⟩
      | exit id=>exact⟨_,a₁,w₁,hq,.pass (x:=.inLoop c) rfl (λ_ _=>.inl (by simp)) harr⟩
      | goto l=>exact⟨_,a₁,w₁,hq,.pass (x:=.inLoop c) rfl (λ_ _=>.inl (by simp)) harr⟩
      | ret=>exact⟨_,a₁,w₁,hq,.pass (x:=.inLoop c) rfl (λ_ _=>.inl (by simp)) harr⟩
      | panic ch=>exact⟨_,a₁,w₁,hq,.pass (x:=.inLoop c) rfl (λ_ _=>.inl (by simp)) harr⟩
      | outgrown=>exact⟨_,a₁,w₁,hq,.pass (x:=.inLoop c) rfl (λ_ _=>.inl (by simp)) harr⟩
  obtain⟨e,a',w',hq,harr⟩:=key j0 s w h0;exact⟨e,a',w',hq,.of_steps (.one (fenced_calm hb hr O) stepR_loop) harr⟩
variable {ops rest:List Oper}{o:Oper}
theorem Va(h:Eg r m ds P R n .normal k s w):Og r m ds P R n ops k [] s w:=h
variable {d:Nat}{dst:Option Nat}{op:Op}{ty:TypeId}{pos:String}{aft:Array Edge}{g:Option (Nat × Bool)}
theorem wanted_eq(ops:List Oper)(n:Nat)(s:Nat->Value)(o:Oper):Region.wanted o (yielded ops.toArray (Sz n s ds).tmps)=Hb ops n s o:=Go.Scarf.wanted_eq ops n s o
theorem TF(ρ:Operand->Value)(o:Oper)(h:∀c,o.op≠.defer c):o.semAt (Fw r).round ρ=execOp ρ o:=Oper.semAt_plain (Fw r) ρ o h
theorem nd_of{ρ:Operand->Value}{o:Oper}{x:Next}{w w':World}(h:(execOp ρ o).run P w=.ok x w')(hx:∀d,x≠.defer d):∀c,o.op≠.defer c:=λc hc=>by
  obtain⟨dst,op,ty,pos,aft,g⟩:=o;subst hc;have e:execOp ρ ⟨dst,.defer c,ty,pos,aft,g⟩=(do let d <-resolve ρ c ty;pure (Next.defer d)):=rfl;rw[e,Sem.run_bind]at h;cases hr:(resolve ρ c ty).run P w with
  | ok d w1=>rw[hr]at h;simp[Result.andThen]at h;exact hx d h.1.symm
  | halt a b=>rw[hr]at h;simp[Result.andThen]at h
theorem GD{v:Value}{w':World}(hrun:(execOp (ev n s) o).run P w=.ok (.value v) w')(h:Og r m ds P R n ops k rest (E2 s o.dst v) w')(hw:Hb ops n s o=true) :
    Og r m ds P R n ops k (o::rest) s w:=by
  unfold Og wpListIn;rw[wanted_eq,if_pos hw];refine⟨λ_ _=>trivial,?_⟩;rw[Mp,TF _ _ (nd_of hrun λ_ h=>(by cases h)),hrun,Oper.uponIn_value,Cx];exact h
theorem og_unit{w':World}(hrun:(execOp (ev n s) o).run P w=.ok .skip w')(h:Og r m ds P R n ops k rest (E2 s o.dst undef) w')(hw:Hb ops n s o=true) :
    Og r m ds P R n ops k (o::rest) s w:=by
  unfold Og wpListIn;rw[wanted_eq,if_pos hw];refine⟨λ_ _=>trivial,?_⟩;rw[Mp,TF _ _ (nd_of hrun λ_ h=>(by cases h)),hrun,Oper.uponIn_skip,Cx];exact h
theorem Ia{v:Value}{w':World}(hrun:(execOp (ev n s) ⟨some d,op,ty,pos,aft,g⟩).run P w=.ok (.value v) w')(h:Og r m ds P R n ops k rest (Hf s d v) w')(hw:Hb ops n s ⟨some d,op,ty,pos,aft,g⟩=true:=by rfl) :
    Og r m ds P R n ops k (⟨some d,op,ty,pos,aft,g⟩::rest) s w:=GD hrun h hw
theorem H3{w':World}(hrun:(execOp (ev n s) ⟨none,op,ty,pos,aft,g⟩).run P w=.ok .skip w')(h:Og r m ds P R n ops k rest s w')(hw:Hb ops n s ⟨none,op,ty,pos,aft,g⟩=true:=by rfl) :
    Og r m ds P R n ops k (⟨none,op,ty,pos,aft,g⟩::rest) s w:=og_unit hrun h hw
theorem Ca(h:Og r m ds P R n ops k rest (Hf s d undef) w)(hw:Hb ops n s ⟨some d,op,ty,pos,aft,g⟩=false:=by rfl):Og r m ds P R n ops k (⟨some d,op,ty,pos,aft,g⟩::rest) s w:=by
  unfold Og wpListIn;rw[wanted_eq,hw,Cx];exact⟨λ_ _=>trivial,h⟩
theorem T7{f:FuncId}{args:Array Value}{w':World}{Q:Value->World->Prop}(hrun:(execOp (ev n s) o).run P w=.ok (.enter f args) w')(hc:Calls P f args w' (Yc Q))
    (h:∀v w'',Q v w''->Og r m ds P R n ops k rest (E2 s o.dst v) w'') (hw:Hb ops n s o=true):Og r m ds P R n ops k (o::rest) s w:=by
  unfold Og wpListIn;rw[wanted_eq,if_pos hw];refine⟨λ_ _=>trivial,?_⟩;rw[Mp,TF _ _ (nd_of hrun λ_ h=>(by cases h)),hrun,Oper.uponIn_enter];refine⟨λh=>(by cases h),(VJ hc).mono λe w'' ⟨v,he,hq⟩=>?_⟩;subst he;show wpListIn (Fw r) m P ops.toArray (post r m ds P R n k) rest ((Sz n s ds).put o.dst v) w'';rw[Cx];exact h v w'' hq
theorem Eb{f:FuncId}{args:Array Value}{w':World}{Q:Value->World->Prop}(hc:Calls P f args w' (Yc Q))(hrun:(execOp (ev n s) ⟨some d,op,ty,pos,aft,g⟩).run P w=.ok (.enter f args) w')
    (h:∀v w'',Q v w''->Og r m ds P R n ops k rest (Hf s d v) w'') (hw:Hb ops n s ⟨some d,op,ty,pos,aft,g⟩=true:=by rfl):Og r m ds P R n ops k (⟨some d,op,ty,pos,aft,g⟩::rest) s w:=T7 hrun hc h hw
theorem o_yield{l:Nat}{args:Array Operand}{ats:Array TypeId}{x:Operand}{vs:Array Value}{Rd:Ending->World->Prop}(hY:YieldAt (Fw r) (m-1) P l vs w Rd)
    (hrun:∀{fn:FuncId}{tmps:Array Value}{as_ body:Code},(Instr.yield l vs).run P w=.ok (.round l fn tmps as_ body) w->(execOp (ev n s) ⟨some d,.call ⟨.value x,args,ats⟩,ty,pos,aft,g⟩).run P w=.ok (.round l fn tmps as_ body) w)
    (h:∀e w',Rd e w'->∃v,e=.returned v/\Og r m ds P R n ops k rest (Hf s d v) w') (hw:Hb ops n s ⟨some d,.call ⟨.value x,args,ats⟩,ty,pos,aft,g⟩=true:=by rfl):Og r m ds P R n ops k (⟨some d,.call ⟨.value x,args,ats⟩,ty,pos,aft,g⟩::rest) s w:=by
  obtain⟨fn,tmps,as_,body,hy,hR⟩:=hY;unfold Og wpListIn;rw[wanted_eq,if_pos hw];refine⟨λ_ _=>trivial,?_⟩;rw[Mp,TF _ _ (by intro c h;cases h),hrun hy,Oper.uponIn_round];refine⟨λh=>(by cases h),hR.mono λe w' he=>?_⟩;obtain⟨v,rfl,hg⟩:=h e w' he;show wpListIn (Fw r) m P ops.toArray (post r m ds P R n k) rest ((Sz n s ds).put (some d) v) w';rw[Cx];exact hg
theorem Cg.slots{c:Code}{l:List (Nat × Value)}(hs:AllEq s l)(h:∀s',Cg r m ds P R n c k (Xm s' l) w):Cg r m ds P R n c k s w:=by
  have:=h s
  rwa [<-hs.eq]at this
theorem Eg.slots{e:Exit}{l:List (Nat × Value)}(hs:AllEq s l)(h:∀s',Eg r m ds P R n e k (Xm s' l) w):Eg r m ds P R n e k s w:=by
  have:=h s
  rwa [<-hs.eq]at this
theorem Sc{b:Bool}(hx:s d=.bool b)(ht:b=true->Og r m ds P R n ops k rest (Hf s d (.bool true)) w)(hf:b=false->Og r m ds P R n ops k rest (Hf s d (.bool false)) w):Og r m ds P R n ops k rest s w :=
  Iq (F:=λs=>Og r m ds P R n ops k rest s w) hx ht hf
theorem Bb{p:Prop}{_:Decidable p}(hx:s d=.bool (decide p))(ht:p->Og r m ds P R n ops k rest (Hf s d (.bool true)) w)(hf:¬p->Og r m ds P R n ops k rest (Hf s d (.bool false)) w):Og r m ds P R n ops k rest s w :=
  Sc hx (λh=>ht (of_decide_eq_true h)) (λh=>hf (of_decide_eq_false h))
theorem Xz{c:Code}{b:Bool}(hx:s d=.bool b)(ht:b=true->Cg r m ds P R n c k (Hf s d (.bool true)) w)(hf:b=false->Cg r m ds P R n c k (Hf s d (.bool false)) w):Cg r m ds P R n c k s w :=
  Iq (F:=λs=>Cg r m ds P R n c k s w) hx ht hf
theorem Q8{c:Code}{p:Prop}{_:Decidable p}(hx:s d=.bool (decide p))(ht:p->Cg r m ds P R n c k (Hf s d (.bool true)) w)(hf:¬p->Cg r m ds P R n c k (Hf s d (.bool false)) w):Cg r m ds P R n c k s w :=
  Xz hx (λh=>ht (of_decide_eq_true h)) (λh=>hf (of_decide_eq_false h))
variable {w0:World}{Ds:List Nat}{bs bs_ bs':List (Nat × Obj)}{i:Nat}{v:Value}{x y:Code}
theorem Pl{t:TypeId}{x:Operand}{v:Value}{cs:Array Value}(hF:FR w0 Ds bs w)(hx:ev n s x=v)(hv:v.cells=cs)
    (h:∀b w',b=w.heap.size->FR w0 Ds ((b,.cells cs t)::bs) w'->Same [] w w'->Og r m ds P R n ops k rest (Hf s d (V b)) w')
    (hw:Hb ops n s ⟨some d,.box t x,ty,pos,aft,g⟩=true:=by rfl):Og r m ds P R n ops k (⟨some d,.box t x,ty,pos,aft,g⟩::rest) s w :=
  Ia (x_box hx) (h _ _ rfl (by subst hv;exact hF.alloc _) (Same.alloc w _)) hw
theorem Pc{t:TypeId}{z:Value}{cs:Array Value}(hF:FR w0 Ds bs w)(hz:∀w,(zeroValue t).run P w=.ok z w)(hv:z.cells=cs)
    (h:∀b w',b=w.heap.size->FR w0 Ds ((b,.cells cs t)::bs) w'->Same [] w w'->Og r m ds P R n ops k rest (Hf s d (V b)) w')
    (hw:Hb ops n s ⟨some d,.alloc t,ty,pos,aft,g⟩=true:=by rfl):Og r m ds P R n ops k (⟨some d,.alloc t,ty,pos,aft,g⟩::rest) s w :=
  Ia (Xh hz) (h _ _ rfl (by subst hv;exact hF.alloc _) (Same.alloc w _)) hw
theorem Fg(i:Nat){t:TypeId}{x y:Operand}{v:Value}{l:List Value}{b off:Nat}{cs cs':Array Value}{T:TypeId}(hF:FR w0 Ds bs w)(hs:∀w,(sizeOf t).run P w=.ok l.length w)
    (hx:ev n s x=.pointer (some ⟨b,off,none⟩)) (hy:ev n s y=v) (hl:v.cells=l.toArray) (hv:∀v∈l,one v=true) (hi:bs[i]? = some (b,.cells cs T)) (hsz:off+l.length<=cs.size)
    (hcs:putA cs off l=cs')
    (h:∀w',FR w0 Ds (bs.set i (b,.cells cs' T)) w'->Same [b] w w'->Og r m ds P R n ops k rest s w')
    (hw:Hb ops n s ⟨none,.store t x y,ty,pos,aft,g⟩=true:=by rfl):Og r m ds P R n ops k (⟨none,.store t x y,ty,pos,aft,g⟩::rest) s w:=by
  have hh:=hF.heap hi;have hsp:=Bo b off (fz:=(0,0)) l 0 w cs hh;refine H3 (B6 hs hx hy hl hv λj hj=>?_) (h (Bk w ⟨b,off,none⟩ 0 l) ?_ hsp.2) hw
  ·have e : (⟨b, off, none⟩ : Addr).add j = ⟨b, off + j, none⟩ := by unfold Addr.add;split <;> simp_all
   rw[e,Zc hh];exact⟨⟨cs[off+j]'(by omega),by simp⟩,Fq hh _⟩
  subst hcs;exact hF.change i hi hsp.2 (by simpa using hsp.1)
theorem J4{t:TypeId}{y:Operand}{z v:Value}{l:List Value}{ty':TypeId}{pos':String}{aft':Array Edge}(hF:FR w0 Ds bs w)(hz:∀w,(zeroValue t).run P w=.ok z w)(hs:∀w,(sizeOf t).run P w=.ok l.length w)
    (hzl:z.cells.size=l.length) (hy:ev n (Hf s d (.pointer (some ⟨w.heap.size,0,none⟩))) y=v) (hl:v.cells=l.toArray) (hv:∀v∈l,one v=true) (hdn:Nat.blt d n=true)
    (h:∀b w',b=w.heap.size->FR w0 Ds ((b,.cells l.toArray t)::bs) w'->Same [] w w'->Og r m ds P R n ops k rest (Hf s d (V b)) w') :
    Og r m ds P R n ops k (⟨some d,.alloc t,ty,pos,aft,none⟩::⟨none,.store t (.tmp d) y,ty',pos',aft',none⟩::rest) s w:=by
  refine Ia (Xh hz) ?_ O;have hF1:=hF.alloc (.cells z.cells t);refine Fg 0 (b:=w.heap.size) (off:=0) (cs:=z.cells) (T:=t) (cs':=l.toArray) hF1 hs (by simp[ev,Hf,hdn]) hy hl hv O (by omega) ?_ (λw' hF' hS=>?_) O
  ·have key:∀(l:List Value)(off:Nat)(cs:Array Value),off+l.length=cs.size->putA cs off l=(cs.toList.take off++l).toArray:=by
     intro l
     induction l with
     | nil=>intro off cs h;simp only[putA,qQ];rw[List.take_of_length_le (by simp at h ⊢;omega)]
     | cons v l ih =>
       intro off cs h;simp only[kQ]at h;rw[putA,ih _ _ (by simp;omega)];have hoff:off<cs.toList.length:=by simp;omega
       have e:(cs.setIfInBounds off v).toList.take (off+1)=cs.toList.take off++[v]:=by
         rw[Array.toList_setIfInBounds,iQ (by simpa using hoff),List.take_set_of_le (gQ _)];simp
       rw[e];simp
   simpa using key l 0 z.cells (by omega)
  refine h _ w' O hF' ⟨hS.os, hS.tape, hS.output, fQ (by simp) hS.size, λb hb _ => ?_⟩;rw[hS.block b (by simp;omega) (by simp;omega)];exact Below.heap_alloc w _ b hb
theorem Nx{v:Nat->Value}{o:Obj}{op:Op}(hF:FR w0 Ds bs_ w)(hrun:(execOp (ev n s) ⟨some d,op,ty,pos,aft,g⟩).run P w=.ok (.value (v w.heap.size)) (w.alloc o))
    (h:∀b w',b=w.heap.size->FR w0 Ds ((b,o)::bs_) w'->Same [] w w'->Og r m ds P R n ops k rest (Hf s d (v b)) w')
    (hw:Hb ops n s ⟨some d,op,ty,pos,aft,g⟩=true:=by rfl):Og r m ds P R n ops k (⟨some d,op,ty,pos,aft,g⟩::rest) s w :=
  Ia hrun (h _ _ rfl (hF.alloc _) (Same.alloc w _)) hw
section
variable {C:World->Prop}
theorem Ba(hy:Y P (ev n s) op v)(h:Og r m ds P R n ops k rest (Hf s d v) w)(hw:Hb ops n s ⟨some d,op,ty,pos,aft,g⟩=true:=by rfl):Og r m ds P R n ops k (⟨some d,op,ty,pos,aft,g⟩::rest) s w:=Ia (hy ..) h hw
theorem Xb(hy:YC (λw'=>w'=w) P (ev n s) op v)(h:Og r m ds P R n ops k rest (Hf s d v) w)(hw:Hb ops n s ⟨some d,op,ty,pos,aft,g⟩=true:=by rfl):Og r m ds P R n ops k (⟨some d,op,ty,pos,aft,g⟩::rest) s w:=Ia (hy _ _ _ _ _ w rfl) h hw
theorem Jb{p:Prop}{_:Decidable p}(hx:ev n s (.tmp d)=.bool (decide p))(hd:Nat.blt d n=true)(ht:p->Cg r m ds P R n x k (Hf s d (.bool true)) w)(hf:¬p->Cg r m ds P R n y k (Hf s d (.bool false)) w):Cg r m ds P R n (.cond (.tmp d) x y) k s w :=
  Q8 (by simpa[ev,hd]using hx) (λh=>Yd (by simp[ev,Hf,hd]) (ht h)) (λh=>Zd (by simp[ev,Hf,hd]) (hf h))
theorem Jd{b:Bool}(hx:ev n s (.tmp d)=.bool b)(hd:Nat.blt d n=true)(ht:b=true->Cg r m ds P R n x k (Hf s d (.bool true)) w)(hf:b=false->Cg r m ds P R n y k (Hf s d (.bool false)) w):Cg r m ds P R n (.cond (.tmp d) x y) k s w :=
  Xz (by simpa[ev,hd]using hx) (λh=>Yd (by simp[ev,Hf,hd]) (ht h)) (λh=>Zd (by simp[ev,Hf,hd]) (hf h))
end
end
section
variable {r:Option Nat}{m:Nat}{ds:List Deferred}{P:Program}{R:Exit->Act->World->Prop}{n:Nat}{k:Kt}{s:Nat->Value}{w w0:World}{ops rest:List Oper}{Ds:List Nat}{bs_ bs':List (Nat × Obj)}
variable {d i:Nat}{ty:TypeId}{pos:String}{aft:Array Edge}{g:Option (Nat × Bool)}{x y:Operand}{t b off ii mm:Nat}{l l':List Value}{u:Value}{T:TypeId}
theorem Ro(v:Value)(hF:FR w0 Ds bs_ w)(hs:∀w,(sizeOf t).run P w=.ok 1 w)(hx:ev n s x=.pointer (some ⟨b,off,none⟩))(hy:ev n s y=v)(hb:AtI ii bs_ (b,.cells l.toArray T) (b,.cells l'.toArray T) bs')(hc:AtI off l u v l')(h:∀w',FR w0 Ds bs' w'->Same [b] w w'->Og r m ds P R n ops k rest s w')(hv:v.cells=#[v]:=by rfl)(ho:one v=true:=by rfl)(hw:Hb ops n s ⟨none,.store t x y,ty,pos,aft,g⟩=true:=by rfl):Og r m ds P R n ops k (⟨none,.store t x y,ty,pos,aft,g⟩::rest) s w :=
  Fg ii hF (l:=[v]) hs hx hy hv (by simpa using ho) hb.get (by simpa using Nat.succ_le_of_lt hc.lt) (by rw[Iw,hc.set]) (by rw[hb.set];exact h) hw
theorem Ge(hF:FR w0 Ds bs_ w)(hs:∀w,(sizeOf t).run P w=.ok mm w)(hx:ev n s x=V b)(hy:ev n s y=.agg l'.toArray)(hb:AtI ii bs_ (b,.cells l.toArray T) (b,.cells l'.toArray T) bs')(h:∀w',FR w0 Ds bs' w'->Same [b] w w'->Og r m ds P R n ops k rest s w')(hm:l'.length=mm:=by rfl)(hl:l.length=l'.length:=by rfl)(ho:l'.all one=true:=by rfl)(hw:Hb ops n s ⟨none,.store t x y,ty,pos,aft,g⟩=true:=by rfl):Og r m ds P R n ops k (⟨none,.store t x y,ty,pos,aft,g⟩::rest) s w :=
  Fg ii hF (l:=l') (by rw[hm];exact hs) hx hy rfl (List.all_eq_true.1 ho) hb.get (by simp[hl]) (Gn (by simpa using hl)) (by rw[hb.set];exact h) hw
theorem VH(v:Value)(hF:FR w0 Ds bs_ w)(hy:ev n s x=v)(h:∀b w',b=w.heap.size->FR w0 Ds ((b,.cells #[v] t)::bs_) w'->Same [] w w'->Og r m ds P R n ops k rest (Hf s d (V b)) w')(hv:v.cells=#[v]:=by rfl)(hw:Hb ops n s ⟨some d,.box t x,ty,pos,aft,g⟩=true:=by rfl):Og r m ds P R n ops k (⟨some d,.box t x,ty,pos,aft,g⟩::rest) s w:=Pl hF hy hv h hw
theorem Ce{cs:Array Value}(hF:FR w0 Ds bs_ w)(hy:ev n s x=.agg cs)(h:∀b w',b=w.heap.size->FR w0 Ds ((b,.cells cs t)::bs_) w'->Same [] w w'->Og r m ds P R n ops k rest (Hf s d (V b)) w')(hw:Hb ops n s ⟨some d,.box t x,ty,pos,aft,g⟩=true:=by rfl):Og r m ds P R n ops k (⟨some d,.box t x,ty,pos,aft,g⟩::rest) s w:=Pl hF hy rfl h hw
theorem If{z:Value}{ty':TypeId}{pos':String}{aft':Array Edge}(hF:FR w0 Ds bs_ w)(hz:∀w,(zeroValue t).run P w=.ok z w)(hs:∀w,(sizeOf t).run P w=.ok mm w)(hy:ev n (Hf s d (.pointer (some ⟨w.heap.size,0,none⟩))) y=.agg l.toArray)(h:∀b w',b=w.heap.size->FR w0 Ds ((b,.cells l.toArray t)::bs_) w'->Same [] w w'->Og r m ds P R n ops k rest (Hf s d (V b)) w')(hm:l.length=mm:=by rfl)(hzl:z.cells.size=l.length:=by rfl)(ho:l.all one=true:=by rfl)(hdn:Nat.blt d n=true:=by rfl):Og r m ds P R n ops k (⟨some d,.alloc t,ty,pos,aft,none⟩::⟨none,.store t (.tmp d) y,ty',pos',aft',none⟩::rest) s w:=J4 (l:=l) hF hz (by rw[hm];exact hs) hzl hy rfl (List.all_eq_true.1 ho) hdn h
end
section
variable {r:Option Nat}{md:Nat}{ds:List Deferred}{P:Program}{R:Exit->Act->World->Prop}{n:Nat}{kt:Kt}{s:Nat->Value}{w w0:World}{ops rest:List Oper}{Ds:List Nat}{bs_ sb:List (Nat × Obj)}{pre post:List (Nat × Obj)}
variable {d:Nat}{ty:TypeId}{pos:String}{aft:Array Edge}{g:Option (Nat × Bool)}
theorem Up(pre post:List (Nat × Obj)){x y:Operand}{t e m bytes:Nat}{A A2:Option Addr}{len c k c2:Nat}{xs news:List Value}(hE:Elems P t e m bytes)
    (hF:FR w0 Ds (pre++(sb++post)) w) (hS:SlB e m A len c xs sb) (hx:ev n s x=.slice A len c) (hy:ev n s y=.slice A2 k c2)
    (hl:news.length=k*m) (hnews:k≠0->∃a,A2=some a/\∀j u,news[j]? = some u->w.cell? (a.add j)=some u) (h1:∀u∈news,u.oneCell'=true)
    (h63:len+k<=maxLen) {len':Nat} {ys:List Value} (hlen:len+k=len') (hys:xs++news=ys) (hbytes:(len+k)*bytes<=140737488355328)
    (h:∀A' c' sb' w',SlB e m A' len' c' ys sb'->FR w0 Ds (pre++(sb'++post)) w'->Same (sb.map (·.1)) w w'->(∀p∈sb',p.1∈sb.map (·.1)\/w.heap.size<=p.1)->Og r md ds P R n ops kt rest (Hf s d (.slice A' len' c')) w')
    (hw:Hb ops n s ⟨some d,.call ⟨.builtin .append,#[x,y],#[t,t]⟩,ty,pos,aft,g⟩=true:=by rfl):Og r md ds P R n ops kt (⟨some d,.call ⟨.builtin .append,#[x,y],#[t,t]⟩,ty,pos,aft,g⟩::rest) s w:=by
  subst hlen hys;obtain⟨i,z,hi,hz,h2,h3,h4⟩:=hE.info;obtain⟨A',c',sb',w',hr,hS',hF',hs,hn⟩:=Oy (ty:=ty) (c2:=c2) hE.ht hi hz h2 h3 h4 hF hS hl hnews h1 h63 hbytes;exact Ia (Do hx hy hr) (h A' c' sb' w' hS' hF' hs hn) hw
theorem Js{x y:Operand}{t e m bytes:Nat}{A A2:Option Addr}{len c k c2:Nat}{xs news:List Value}(hE:Elems P t e m bytes)
    (hF:FR w0 Ds bs_ w) (hS:SlB e m A len c xs sb) (hx:ev n s x=.slice A len c) (hy:ev n s y=.slice A2 k c2)
    (hl:news.length=k*m) (hnews:k≠0->∃a,A2=some a/\∀j u,news[j]? = some u->w.cell? (a.add j)=some u) (h1:∀u∈news,u.oneCell'=true)
    (h63:len+k<=maxLen) {len':Nat} {ys:List Value} (hlen:len+k=len') (hys:xs++news=ys) (hbytes:(len+k)*bytes<=140737488355328)
    (h:∀A' c' sb' w',SlB e m A' len' c' ys sb'->FR w0 Ds (pre++(sb'++post)) w'->Same (sb.map (·.1)) w w'->(∀p∈sb',p.1∈sb.map (·.1)\/w.heap.size<=p.1)->Og r md ds P R n ops kt rest (Hf s d (.slice A' len' c')) w')
    (hw:Hb ops n s ⟨some d,.call ⟨.builtin .append,#[x,y],#[t,t]⟩,ty,pos,aft,g⟩=true:=by rfl) (hsp:Spl bs_ pre sb post:=by repeat (first|exact Spl.z|apply Spl.c|apply Spl.a)):Og r md ds P R n ops kt (⟨some d,.call ⟨.builtin .append,#[x,y],#[t,t]⟩,ty,pos,aft,g⟩::rest) s w :=
  Up pre post hE (hsp.eq▸hF) hS hx hy hl hnews h1 h63 hlen hys hbytes h hw
end
section
variable {r:Option Nat}{m:Nat}{ds:List Deferred}{P:Program}{R:Exit->Act->World->Prop}{n:Nat}{k:Kt}{s:Nat->Value}{w w0:World}{Ds:List Nat}{bs_:List (Nat × Obj)}
theorem same_put(w:World)(l:Nat)(o:Obj):Same [l] w (w.putObj l o):=⟨rfl,rfl,rfl,by simp[World.putObj],λb hb hn=>World.putObj_heap_other (by simpa using hn)⟩
theorem FR.put(hF:FR w0 Ds bs_ w)(i:Nat){l:Nat}{o:Obj}(o':Obj)(hi:bs_[i]? = some (l,o)):FR w0 Ds (bs_.set i (l,o')) (w.putObj l o'):=by
  have hlt:l<w.heap.size:=Ac (hF.heap hi);exact hF.change i hi (same_put w l o') (World.putObj_heap_same hlt)
def Xu(fn:FuncId)(n:Nat)(s:Nat->Value)(ps:Array Tmp)(as_ body:Code)(D:Nat)(st:LoopState):Obj:=.loop { state:=st,pending:=none,fn:=fn,tmps:=(Sz n s []).tmps,params:=ps,assign:=as_,body:=body,defers:=D }
def mark(D:Nat):List Deferred:=[{ target:=.collected D,args:=#[] }]
variable {fn l D:Nat}{ps:Array Tmp}{as_ body:Code}{Rd:Ending->World->Prop}
def IJ:Kt->Bool
  | .done=>true
  | .seq _ k=>IJ k
  | .block _ k=>IJ k
  | .inv _ _ _=>false
theorem MF{ds':List Deferred}:∀{k:Kt},IJ k=true->post r m ds P R n k=post r m ds' P R n k
  | .done,_=>rfl
  | .seq y k,h=>by rw[post,post,MF (k:=k) h]
  | .block id k,h=>by rw[post,post,MF (k:=k) h]
  | .inv _ _ _,h=>by cases h
theorem c_range{g:Operand}{gf:FuncId}{lb:Array Value}(hF:FR w0 Ds bs_ w)(hg:ev n s g=.func (.func gf) #[] lb)(eg:Ra P gf)
    (h:∀fn D l w',FR w0 Ds ((l,Xu fn n s ps as_ body D .ready)::(D,.deferred (some []))::bs_) w'->Same [] w w' ->
      Calls P gf (#[.func (.yield l) #[] #[]]++lb) w' (Yc λ_ w3=>∃st,st≠.busy/\w3.heap[l]? = some (Xu fn n s ps as_ body D st)/\Eg none m (mark D) P R n .normal k s (w3.putObj l (Xu fn n s ps as_ body D .exhausted)))) (hk:IJ k=true:=by rfl) :
    Cg none m [] P R n (.rangeFunc g ps as_ body) k s w:=by
  refine wpIn_rangeFunc ?_;intro fn _;have hF1:=hF.alloc (.deferred (some []));have hF2:=hF1.alloc (Xu fn n s ps as_ body w.heap.size .ready);rw[World.size_alloc]at hF2;refine⟨w.heap.size+1,mark w.heap.size,(w.alloc (.deferred (some []))).alloc (Xu fn n s ps as_ body w.heap.size .ready),{ target:=.fn (.func gf) lb,args:=#[.func (.yield (w.heap.size+1)) #[] #[]] },(w.alloc (.deferred (some []))).alloc (Xu fn n s ps as_ body w.heap.size .ready),gf,
    #[.func (.yield (w.heap.size+1)) #[] #[]]++lb,(w.alloc (.deferred (some []))).alloc (Xu fn n s ps as_ body w.heap.size .ready),?_,?_,?_,?_,λh=>(by cases h),?_⟩
  ·exact run_enterLoop_outer _ _ _ _ _
  ·have hg' : (Sz n s []).eval g = .func (.func gf) #[] lb := by rw[Mp];exact hg
   simp only[resolve,hg'];simp[go_sem]
  ·intro f' _;trivial
  ·simp[invoke,go_sem,eg _ _]
  refine (VJ (h fn w.heap.size (w.heap.size + 1) _ hF2 ((Same.alloc w _).trans (Same.alloc _ _)))).mono ?_;rintro e w3 ⟨v,rfl,st,hst,hl,hE⟩;refine⟨none,_,run_endLoop hl hst,?_⟩;have hE':=hE;unfold Eg at hE';rw[MF (ds':=[]) hk]at hE';exact hE'
theorem y_round{vs:Array Value}{s':Nat->Value}(hl:w.heap[l]? = some (Xu fn n s ps as_ body D .ready))(hsz:vs.size=ps.size)(hs:(ps.zip vs).foldl (λtmps (x:Tmp × Value)=>tmps.setIfInBounds x.1 x.2) (Sz n s []).tmps=(Sz n s' []).tmps)
    (h:Cg (some l) m [] P (Exit.then (λa1 w1=>∃w2,(Instr.beginRound l).run P w1=.ok () w2/\body.wpIn (Fw (some l)) m P (roundPost P l Rd) a1 w2) (λ_ _ _=>False)) n as_ .done s' w):YieldAt (Fw none) m P l vs w Rd:=by
  refine⟨fn,_,as_,body,run_yield hl hsz,?_⟩;refine roundIn_of_wpIn trivial ?_;have e:({ tmps:=(ps.zip vs).foldl (λtmps (x:Tmp × Value)=>tmps.setIfInBounds x.1 x.2) (Sz n s []).tmps,defers:=[] }:Act)=Sz n s' []:=by rw[hs];rfl
  exact e▸h
theorem as_end{s1:Nat->Value}{s0:Nat->Value}(hl:w.heap[l]? = some (Xu fn n s0 ps as_ body D .ready))(h:Cg (some l) m [] P (roundPost P l Rd) n body .done s1 (w.putObj l (Xu fn n s0 ps as_ body D .busy))) :
    Eg (some l) m [] P (Exit.then (λa1 w1=>∃w2,(Instr.beginRound l).run P w1=.ok () w2/\body.wpIn (Fw (some l)) m P (roundPost P l Rd) a1 w2) (λ_ _ _=>False)) n .normal .done s1 w :=
  ⟨_,run_beginRound hl rfl,h⟩
theorem body_end{s1 s0:Nat->Value}(hl:w.heap[l]? = some (Xu fn n s0 ps as_ body D .busy))(h:Rd (.returned (.bool true)) (w.putObj l (Xu fn n s0 ps as_ body D .ready))) :
    Eg (some l) m [] P (roundPost P l Rd) n .normal .done s1 w:=⟨_,_,run_endRound none hl,h⟩
theorem OF{f:FuncId}{fn:Func}{c:Code}{args:Array Value}{Q:Value->World->Prop}{li:List (Nat × Value)}(hf:P.funcs[f]? = some fn)(hb:fn.body=some c)(hn:fn.ntmps=n)(hsz:args.size<=n)
    (hs:∀i,args.getD i undef=Xm (λ_=>undef) li i)
    (h:Cg none m [] P (bodyPostM Fence.wide m P fn (Yc Q)) n c .done (Xm (λ_=>undef) li) w):Calls P f args w (Yc Q):=by
  refine (callsIn_wide (n:=m)).1 (callsIn_of_wp_marks hf hb trivial ?_ O);rw[hn,S7 n args hsz,show (λi=>args.getD i undef)=Xm (λ_=>undef) li from funext hs];exact h
theorem QW{fn:Func}{v:Value}{Q:Value->World->Prop}(hK:w.heap[D]? = some (.deferred (some [])))(hr:(results fn (Kl n s).tmps).run P (w.putObj D (.deferred none))=.ok v (w.putObj D (.deferred none)))(h:Q v (w.putObj D (.deferred none))) :
    bodyPostM Fence.wide m P fn (Yc Q) .ret (Sz n s (mark D)) w:=by
  refine⟨by simp[mark],.inl ⟨_,_,O,run_takeDeferred hK,?_⟩⟩;exact⟨v,hr,v,O,h⟩
theorem XF{f:FuncId}{fn:Func}{c:Code}{args:Array Value}{Q:Value->World->Prop}{li:List (Nat × Value)}(hf:P.funcs[f]? = some fn)(hb:fn.body=some c)(hn:fn.ntmps=n)(hsz:args.size<=n)
    (hs:∀i,args.getD i undef=Xm (λ_=>undef) li i)
    (h:Cg none m [] P (bodyPost P fn (Yc Q)) n c .done (Xm (λ_=>undef) li) w):Calls P f args w (Yc Q):=by
  refine (callsIn_wide (n:=m)).1 (callsIn_of_wp hf hb trivial ?_ O);rw[hn,S7 n args hsz,show (λi=>args.getD i undef)=Xm (λ_=>undef) li from funext hs];exact h
end
section
variable {P:Program}{ρ:Operand->Value}{dst:Option Nat}{ty:TypeId}{pos:String}{aft:Array Edge}{g:Option (Nat × Bool)}{w:World}
theorem x_yield2{l:Nat}{x x1 x2:Operand}{ats:Array TypeId}{v1 v2:Value}{fn:FuncId}{tmps:Array Value}{as_ body:Code}(hx:ρ x=.func (.yield l) #[] #[])(h1:ρ x1=v1)(h2:ρ x2=v2)(hy:(Instr.yield l #[v1,v2]).run P w=.ok (.round l fn tmps as_ body) w) :
    (execOp ρ ⟨dst,.call ⟨.value x,#[x1,x2],ats⟩,ty,pos,aft,g⟩).run P w=.ok (.round l fn tmps as_ body) w:=by
  simp[execOp,resolve,Deferred.ofValue,hx,h1,h2,invoke,hy]
end
attribute [irreducible] Cg Eg Og
end Go.Scarf.Fn
namespace Go.Scarf
open Go.RowKit Go.Proofs Go.Proofs.Tryz
theorem wordN_le(s:Str):0<=Mu s/\Mu s<=12:=by unfold Mu;(repeat' split) <;> decide
def M9(x:Tk):Prop:=0<=x.k/\x.k<=12/\x.f<x.t/\x.t<=65536
theorem AM{s:Str}{a:Nat}(ha:a<s.length)(h:(Zh s a).2=0):a<(Zh s a).1.t/\(Zh s a).1.t<=s.length/\(Zh s a).1.f=a/\0<=(Zh s a).1.k/\(Zh s a).1.k<=12:=by
  unfold Zh at h ⊢;have h0:0<(s.drop a).length:=by rw[List.length_drop];omega
  rw[RB h0]at h ⊢;have hpos:∀p:UInt8->Bool,p (s.drop a)[0]=true->0<Kj p (s.drop a):=λp hp=>by
    cases hd:s.drop a with
    | nil=>rw[hd]at h0;simp at h0
    | cons c r=>simp only[hd,List.getElem_cons_zero]at hp;rw[Kj,if_pos hp];omega
  have hle:∀p:UInt8->Bool,Kj p (s.drop a)<=s.length-a:=λp=>by have:=Gr p (s.drop a);rwa [List.length_drop]at this
  have hq:=DY s a Aa;generalize (s.drop a)[0]=c at h hpos ⊢;unfold Ix at h ⊢;dsimp only at h ⊢;split at h
  ·rename_i h1;rw[if_pos h1];have:=(Q7 [123,125,91,93,44,58] c).2;simp only[kQ,List.length_nil]at this;exact⟨by simp only;omega,by simp only;omega,rfl,by simp only;omega,by simp only;omega⟩
  rename_i h1;rw[if_neg h1]
  split at h
  ·rename_i h2;rw[if_pos h2];have:=hpos _ h2;have:=hle Mr;exact⟨by simp only;omega,by simp only;omega,rfl,by simp only;decide,by simp only;decide⟩
  rename_i h2;rw[if_neg h2]
  split at h
  ·rename_i h3;rw[if_pos h3]
   split at h
   ·rename_i h4;rw[if_pos h4]
    refine⟨?_,hq.1,O,by simp only;decide,by simp only;decide⟩;show a<(Lf s a).2.1;unfold Lf at h4 ⊢;split at h4
    ·rename_i h5;rw[if_pos h5]
     have:=O3 (s.length-a) s (a+1) [] Aa Aa;omega
    cases h4
   rename_i h4;exact absurd h h4
  rename_i h3;rw[if_neg h3]
  split at h
  ·rename_i h4;rw[if_pos h4]
   split at h
   ·rename_i h5;rw[if_pos h5]
    have hn:FK c=true:=by
      have:∀n<256,((UInt8.ofNat n).toNat=45\/(48<=(UInt8.ofNat n).toNat/\(UInt8.ofNat n).toNat<=57))->FK (UInt8.ofNat n)=true:=by decide +kernel
      have h2:=this c.toNat (UInt8.toNat_lt c);simp only[UInt8.ofNat_toNat]at h2;exact h2 h4
    have:=hpos _ hn;have:=hle FK;exact⟨by simp only;omega,by simp only;omega,O,by simp only;decide,by simp only;decide⟩
   rename_i h5;exact absurd h h5
  rename_i h4;rw[if_neg h4]
  split at h
  ·rename_i h5;rw[if_pos h5]
   have:=hle Fj;have hw:=wordN_le ((s.drop a).take (Kj Fj (s.drop a)));refine⟨?_,by simp only;omega,O,hw.1,hw.2⟩;show a<a+Kj Fj (s.drop a);rcases Nat.eq_zero_or_pos (Kj Fj (s.drop a))with h6|h6
   ·rw[h6]at h5;exact absurd (by rw[List.take_zero];rfl) h5
   omega
  cases h
theorem all_c(s:Str)(w0:World):Calls prog 169 #[.string (bs s)] w0 (Yc λv w'=>∃b:Nat,v=.func (.func 230) #[] #[V b]/\w'.heap[b]? = some (.cells #[.string (bs s)] 9)/\w0.heap.size<=b/\Same [] w0 w'):=by
 refine Fa func169 O ntmps169 Ab (Wb _) ?_;have hF:=FR.start w0 [];refine Ea (VH (.string _) hF O ?_);rintro b1 w hb1 hF -;refine Ba (O2) (Lb (Ia (v:=.func (.func 230) #[] #[V b1]) (El O) (Ba (O2) (Da ?_))));refine Gc (v:=.func (.func 230) #[] #[V b1]) O O ?_;exact⟨b1,O,hF.heap (i:=0) O,hF.ge (i:=0) O,hF.same⟩
theorem toks_ok{s:Str}{x:Tk × Int}{A:List Tk × Nat × Int}(h:(if x.2=0 then A else ([],x.1.f,x.2))=Ze s)(hok:(Ze s).2.2=0):x.2=0:=by
  by_cases hx:x.2=0
  ·exact hx
  rw[if_neg hx]at h;rw[<-h]at hok;exact hok
end Go.Scarf
namespace Go.Scarf.Fn
open Go.Scarf Go.RowKit Go.Proofs Go.Proofs.Tryz
set_option maxHeartbeats 4000000 in
set_option maxRecDepth 10000 in
theorem all1_c(s:Str)(hU:UniC s)(hl:s.length<=65536)(hok:(Ze s).2.2=0)(w0:World)(hG:Gl w0)(l Bn:Nat)(SU:List Tk->List (Nat × Obj)->Prop)(hBn:∀pre u,SU pre u->(Bn,.cells #[.string (bs s)] 9)∈u)(hY:∀pre (eb:Nat) (eo:Obj) u w x,pre.length<65536->M9 x->SU pre u->FR w0 [] ([(eb,eo)]++(u++[])) w->YieldAt (Fw none) 2 prog l #[tkA x,J 0] w (λe w'=>e=.returned (.bool true)/\∃u',SU (pre++[x]) u'/\FR w0 [] ([(eb,eo)]++(u'++[])) w'))(u:List (Nat × Obj))(hSU:SU [] u)(w:World)(hF0:FR w0 [] u w):Calls prog 230 #[.func (.yield l) #[] #[],V Bn] w (Yc λv w'=>∃u,SU (Ze s).1 u/\FR w0 [] u w'):=by
 refine XF (m:=3) func230 O ntmps230 (Nat.le_of_ble_eq_true O) (Uc _ _) ?_;have hF:FR w0 [] ([]++(u++[])) w:=by simpa using hF0
 refine Ga (Ga (Ja ?_));refine Ia (v:=.string (bs s)) (Nc iZ O (by rw[Zc (hF.memHeap (List.mem_append_right _ (List.mem_append_left _ (hBn _ _ hSU)))) 0];rfl)) ?_;refine Ba (Sk kX O) (Ba (Mo O O) (Va (Ha ?_)));refine Zd (by show Value.bool (decide _)=_;rw[decide_eq_false (by omega)]) ?_;refine Ka (Ha (Ga (Ja (Ba (Fb O) (Va (Ha (Qa ?_)))))));refine Fc (λμ σ w=>∃(f:Nat),∃(a:Nat),∃(pre:List Tk),∃(u:List (Nat × Obj)),μ=s.length-a/\(R8 f s a pre=Ze s/\s.length-a<f/\a<=s.length/\pre.length<=a)/\(SU pre u)/\AllEq σ [(0,.func (.yield l) #[] #[]),(1,.pointer (some ((⟨Bn,0,none⟩:Addr)))),(3,J ((a:Int)))]/\FR w0 [] ([]++(u++[])) w) _ ⟨s.length+1,0,[],u,O,(⟨by rw[Ze,if_neg (by omega)],by omega,Nat.zero_le _,gQ _⟩),(hSU),⟨O,O,O,trivial⟩,hF⟩ ?_;rintro μ σ w ⟨f,a,pre,u,rfl,hq,hSU,hs,hF⟩;refine Cg.slots hs ?_;clear hs;intro σ;obtain⟨f,rfl⟩:∃g,f=g+1:=⟨f-1,by omega⟩;have hstep:=hq.1;rw[R8]at hstep;refine Ga (Ga (Ja (Ba (Za O) ?_)));refine Ia (v:=.string (bs s)) (Nc iZ O (by rw[Zc (hF.memHeap (List.mem_append_right _ (List.mem_append_left _ (hBn _ _ hSU)))) 0];rfl)) ?_;refine Ba (Sk kX O) (Ba (Pg O O) (Va (Ha ?_)));refine Jb O O (λhc1=>?_) (λhc1=>?_);refine Ka (Ha (Qa (Ga (Ja ?_))));refine Ia (v:=.string (bs s)) (Nc iZ O (by rw[Zc (hF.memHeap (List.mem_append_right _ (List.mem_append_left _ (hBn _ _ hSU)))) 0];rfl)) ?_;refine Ba (Za O) ?_;rw[if_pos (by omega)]at hstep;have hz:(Zh s a).2=0:=toks_ok hstep hok;rw[if_pos hz]at hstep;have hto:=AM (s:=s) (a:=a) (by omega) hz;refine Eb (In (v':=.tuple #[tkA (Zh s a).1,J 0]) (NY s a hU (by omega) (by omega) _ (hG.ext hF.same)) (by rw[hz])) (Xa en_231 O O O) ?_;rintro _ w ⟨rfl,hE⟩;have hF:=hF.ext hE;refine Ba (Mj O) (Ba (Gt O O) (Ba (Rj O O) ?_));refine If hF lX kZ O ?_;rintro b1 w hb1 hF -;refine Ba (Fb O) (Va (Ha (Ga (Ga (Ja (Ba (Pu) (Xb (Bf wQ kZ O hF.F 0 O O) (Ba (Za O) ?_))))))))
 have hyy:=hY pre b1 (.cells #[J ((Zh s a).1.k),J (((Zh s a).1.f:Nat)),J (((Zh s a).1.t:Nat))] 140) u w (Zh s a).1 (by omega) ⟨hto.2.2.2.1,hto.2.2.2.2,by rw[hto.2.2.1];exact hto.1,by omega⟩ hSU hF;refine o_yield hyy (λhy=>x_yield2 O O O hy) ?_;clear hF hyy;rintro e w ⟨rfl,u2,hSU2,hF⟩;refine⟨.bool true,O,?_⟩;refine Ba (Di (b:=true) O) (Ba (Dc O) (Ba (Za O) (Ba (Wm O O) (Ba (Pb O O) (Va (Ha ?_))))));refine Zd (by rfl) (Ka (Ha (Ja (Ba (Mb O1 O) (Ba (Mb Kq O) (Xb (Zg xQ O hF.F 0 O O) (Ba (Fb O) (Va (Ya ?_)))))))));refine Ta ⟨_,?_,f,(Zh s a).1.t,(pre++[(Zh s a).1]),u2,O,(⟨hstep,by omega,hto.2.1,by rw[dQ];show pre.length+1<=_;omega⟩),(hSU2),⟨O,O,O,trivial⟩,hF.drop 1⟩;omega;refine Bc (Yb O ?_);refine Kh (Ve (Zj O) ?_);rw[if_neg (by omega)]at hstep;exact⟨u,by rw[<-hstep];exact hSU,by simpa using hF⟩
section
variable {P:Program}{n:Nat}{s:Nat->Value}{w w0:World}{Ds:List Nat}{bs_ bs':List (Nat × Obj)}
theorem FR.takeK{w':World}{b:Nat}{o:Obj}(hF:FR w0 Ds bs_ w)(hE:Same [] w w')(hh:w'.heap[b]? = some o)(hg:w.heap.size<=b):FR w0 Ds ((b,o)::bs_) w' :=
  (hF.ext hE).addD hh (.inl (fQ hF.same.size hg)) λq hq=>by have:=Ac (hF.memHeap hq);omega
theorem LI(n:Nat)(s:Nat->Value)(d:Nat)(v:Value):(Sz n s []).tmps.setIfInBounds d v=(Sz n (Hf s d v) []).tmps:=by
  have:=Cx n s [] (some d) v;exact congrArg Act.tmps this
theorem res_3c{fn:Func}{a b c T1 T2 T3:Nat}{p q r:Addr}{x y z:Value}(h:fn.results=#[.cell a T1,.cell b T2,.cell c T3])(ha:ev n s (.tmp a)=.pointer (some p))(hb:ev n s (.tmp b)=.pointer (some q))(hc:ev n s (.tmp c)=.pointer (some r))
    (g1:∀w,(isAgg T1).run P w=.ok false w) (g2:∀w,(isAgg T2).run P w=.ok false w) (g3:∀w,(isAgg T3).run P w=.ok false w) (h1:w.cell? p=some x) (h2:w.cell? q=some y) (h3:w.cell? r=some z) :
    (results fn (Kl n s).tmps).run P w=.ok (.tuple #[x,y,z]) w:=by
  have e1:=Kf n s a;have e2:=Kf n s b;have e3:=Kf n s c;rw[ha,Array.getD_eq_getD_getElem?]at e1;rw[hb,Array.getD_eq_getD_getElem?]at e2;rw[hc,Array.getD_eq_getD_getElem?]at e3;have k1:(loadVar T1 p).run P w=.ok x w:=by simp[loadVar,g1,load,Sem.run,h1]
  have k2:(loadVar T2 q).run P w=.ok y w:=by simp[loadVar,g2,load,Sem.run,h2]
  have k3:(loadVar T3 r).run P w=.ok z w:=by simp[loadVar,g3,load,Sem.run,h3]
  simp[results,h,e1,e2,e3,asAddr,k1,k2,k3]
end
def tkC(x:Tk):List Value:=[J x.k,J (x.f:Nat),J (x.t:Nat)]
def tkCs(l:List Tk):List Value:=l.flatMap tkC
theorem IV(l:List Tk)(x:Tk):tkCs (l++[x])=tkCs l++tkC x:=by simp[tkCs]
section
variable {r:Option Nat}{m:Nat}{ds:List Deferred}{P:Program}{R:Exit->Act->World->Prop}{n:Nat}{k:Kt}{s:Nat->Value}{w w0:World}{Ds:List Nat}{bs_:List (Nat × Obj)}{fn l D:Nat}{ps:Array Tmp}{as_ body:Code}{Rd:Ending->World->Prop}{RC:LoopState->Obj}{s1 s0:Nat->Value}
theorem c_rangeR{g:Operand}{gf:FuncId}{lb:Array Value}(hF:FR w0 Ds bs_ w)(hg:ev n s g=.func (.func gf) #[] lb)(eg:Ra P gf)
    (h:∀fn D l w' RC,RC=Xu fn n s ps as_ body D->FR w0 Ds ((l,RC .ready)::(D,.deferred (some []))::bs_) w'->Same [] w w' ->
      Calls P gf (#[.func (.yield l) #[] #[]]++lb) w' (Yc λ_ w3=>∃st,st≠.busy/\w3.heap[l]? = some (RC st)/\Eg none m (mark D) P R n .normal k s (w3.putObj l (RC .exhausted)))) (hk:IJ k=true:=by rfl) :
    Cg none m [] P R n (.rangeFunc g ps as_ body) k s w:=c_range hF hg eg (λfn D l w' h1 h2=>h fn D l w' _ rfl h1 h2) hk
theorem y_roundR{vs:Array Value}{s':Nat->Value}(hRC:RC=Xu fn n s ps as_ body D)(hl:w.heap[l]? = some (RC .ready))(hsz:vs.size=ps.size)(hs:(ps.zip vs).foldl (λtmps (x:Tmp × Value)=>tmps.setIfInBounds x.1 x.2) (Sz n s []).tmps=(Sz n s' []).tmps)
    (h:Cg (some l) m [] P (Exit.then (λa1 w1=>∃w2,(Instr.beginRound l).run P w1=.ok () w2/\body.wpIn (Fw (some l)) m P (roundPost P l Rd) a1 w2) (λ_ _ _=>False)) n as_ .done s' w):YieldAt (Fw none) m P l vs w Rd:=y_round (hRC▸hl) hsz hs h
theorem foldl2(n:Nat)(s:Nat->Value)(a b:Tmp)(x y:Value):((#[a,b]:Array Tmp).zip #[x,y]).foldl (λtmps (x:Tmp × Value)=>tmps.setIfInBounds x.1 x.2) (Sz n s []).tmps=(Sz n (Hf (Hf s a x) b y) []).tmps:=by
  rw[<-LI,<-LI];simp
theorem y_round2{a b:Tmp}{x y:Value}(hRC:RC=Xu fn n s #[a,b] as_ body D)(hl:w.heap[l]? = some (RC .ready))
    (h:Cg (some l) m [] P (Exit.then (λa1 w1=>∃w2,(Instr.beginRound l).run P w1=.ok () w2/\body.wpIn (Fw (some l)) m P (roundPost P l Rd) a1 w2) (λ_ _ _=>False)) n as_ .done (Hf (Hf s a x) b y) w):YieldAt (Fw none) m P l #[x,y] w Rd:=y_roundR hRC hl rfl (foldl2 n s a b x y) h
theorem as_endR(hRC:RC=Xu fn n s0 ps as_ body D)(hl:w.heap[l]? = some (RC .ready))(h:Cg (some l) m [] P (roundPost P l Rd) n body .done s1 (w.putObj l (RC .busy))) :
    Eg (some l) m [] P (Exit.then (λa1 w1=>∃w2,(Instr.beginRound l).run P w1=.ok () w2/\body.wpIn (Fw (some l)) m P (roundPost P l Rd) a1 w2) (λ_ _ _=>False)) n .normal .done s1 w:=by
  subst hRC;exact as_end hl h
theorem PX(hRC:RC=Xu fn n s0 ps as_ body D)(hl:w.heap[l]? = some (RC .busy))(h:Rd (.returned (.bool true)) (w.putObj l (RC .ready))) :
    Eg (some l) m [] P (roundPost P l Rd) n .normal .done s1 w:=by
  subst hRC;exact body_end hl h
end
theorem tk_reps{S:Nat->Prop}{w:World}:∀l:List Tk,(∀y∈l,M9 y)->RepL S w (l.map IW) (tkCs l)
  | [],_=>RepL.nil_mk
  | x :: l, h => by
    have hx:M9 x:=h x List.mem_cons_self;unfold M9 at hx;have k1:V4 (J x.k):=by exact⟨by show (-9223372036854775808:Int)<=_;omega,by show _<=(9223372036854775807:Int);omega⟩
    have k2:V4 (J (x.f:Nat)):=by exact⟨by show (-9223372036854775808:Int)<=_;omega,by show _<=(9223372036854775807:Int);omega⟩
    have k3:V4 (J (x.t:Nat)):=by exact⟨by show (-9223372036854775808:Int)<=_;omega,by show _<=(9223372036854775807:Int);omega⟩
    have h1:Rep S w (IW x) (tkC x):=by
      simp only[IW,Gj,Rep,RepL];exact⟨_,_,O,⟨O,k1⟩,_,_,O,⟨_,_,O,⟨O,k2⟩,_,_,O,⟨O,k3⟩,O⟩,O⟩
    exact RepL.cons_mk h1 (tk_reps l λy hy=>h y (List.mem_cons_of_mem _ hy))
set_option maxHeartbeats 4000000 in
set_option maxRecDepth 10000 in
theorem tokens_c(s:Str)(hU:UniC s)(hl:s.length<=65536)(hok:(Ze s).2.2=0)(w0:World)(hG:Gl w0):Calls prog 112 #[.string (bs s)] w0 (Yc λv w'=>∃A c,v=.tuple #[.slice A (Ze s).1.length c,J (s.length:Nat),J 0]/\Rep (Btw w0 w') w' (Tm (Ze s).1) [.slice A (Ze s).1.length c]/\(∀y∈(Ze s).1,M9 y)/\Same [] w0 w'):=by
 refine OF (m:=3) func112 O ntmps112 (Nat.le_of_ble_eq_true O) (Wb _) ?_;have hF:=FR.start w0 [];refine Ga (Ja ?_);refine Pc (cs:=#[aQ]) hF zeroValue131 O ?_;rintro b1 w hb1 hF -;refine Pc (cs:=#[J 0]) hF mX O ?_;rintro b2 w hb2 hF -;refine Pc (cs:=#[J 0]) hF zeroValue25 O ?_;rintro b3 w hb3 hF -;refine Va (Ha (Ga (Ja ?_)));refine Pc (cs:=#[aQ]) hF zeroValue131 O ?_;rintro b4 w hb4 hF -;refine Va (Ha (Ga (Ga (Ja (Ba (Ad O) ?_)))));refine Eb (all_c s _) (Ma en_169 O O) ?_;rintro v w' ⟨ba,rfl,hb,hg,hE⟩;have hF:=FR.takeK hF hE hb hg;clear hE hb hg;refine Va (Ha (Qa ?_));refine c_rangeR hF O en_230 ?_;intro fn D l w RC hRC hF hE;clear hE;refine Cm (all1_c s hU hl hok w0 hG l ba (λpre u=>∃A c sb,SlB 140 3 A pre.length c (tkCs pre) sb/\(∀y∈pre,M9 y)/\u=(l,RC .ready)::(D,.deferred (some []))::(ba,.cells #[.string (bs s)] 9)::(b4,.cells #[.slice A pre.length c] 131)::(b3,.cells #[J 0] 25)::(b2,.cells #[J 0] 3)::(b1,.cells #[aQ] 131)::sb) ?_ ?_ _ ⟨none,0,[],SlB.nil _ _,by simp,O⟩ w hF) ?_;rintro pre u ⟨A,c,sb,hS,hok1,rfl⟩;simp;rintro pre eb eo u w x hpl hxk ⟨A,c,sb,hS,hok1,rfl⟩ hF;have hl1:w.heap[l]? = some (RC .ready):=hF.heap (i:=1) rfl;refine y_round2 hRC hl1 ?_;have hF:FR w0 [] ([(eb,eo),(l,RC .ready),(D,.deferred (some [])),(ba,.cells #[.string (bs s)] 9),(b4,.cells #[.slice A pre.length c] 131),(b3,.cells #[J 0] 25),(b2,.cells #[J 0] 3),(b1,.cells #[aQ] 131)]++(sb++[])) w:=by simpa using hF
 refine Cg.slots (l:=[(5,V b4),(10,tkA x),(11,J 0)]) ⟨O,O,O,trivial⟩ ?_;clear hl1;intro σ;refine Ga (Ja ?_);refine If hF lX kZ O ?_;rintro b5 w hb5 hF -;refine Va (Ha (Ja (Ba (Fb O) (Va ?_))));refine as_endR hRC (hF.heap (i:=2) O) ?_;have hF:=FR.put hF 2 (RC .busy) rfl;generalize w.putObj l (RC .busy)=w at hF ⊢;have hF:FR w0 [] ([(b5,.cells #[J (x.k),J ((x.f:Nat)),J ((x.t:Nat))] 140),(eb,eo),(l,RC .busy),(D,.deferred (some [])),(ba,.cells #[.string (bs s)] 9),(b4,.cells #[.slice A pre.length c] 131),(b3,.cells #[J 0] 25),(b2,.cells #[J 0] 3),(b1,.cells #[aQ] 131)]++(sb++[])) w:=hF;refine Qa (Ga (Ga (Ja (Ba (Za O) (Ba (Wm O O) (Va (Ha ?_)))))));refine Zd (by rfl) (Ka (Ha (Ja (Xb (Ie uQ O hF.F 5 O O) (Xb (Bf wQ kZ O hF.F 0 O O) ?_)))));refine Nx (v:=λb=>W b 1 1) hF (Gb (cs:=#[J (x.k),J ((x.f:Nat)),J ((x.t:Nat))]) xZ kZ lX (by decide) (by decide) (by kernel_rfl)) ?_;rintro b6 w hb6 hF -;refine Js (news:=[J (x.k),J ((x.f:Nat)),J ((x.t:Nat))]) (len':=(pre++[x]).length) (ys:=tkCs (pre++[x])) el_131 hF hS O O (O) (λ_=>⟨_,O,Jc (hF.cellsAll 0 O)⟩) (by simp[Value.oneCell']) (by simp only[maxLen];omega) (by simp) (by rw[IV];rfl) (by omega) ?_;intro A0 c0 o_0 w hS0_o hF hE hnew;refine Ro (.slice _ _ _) hF sizeOf131 O O sI6.app Pi ?_;rintro w hF -;refine Va (Ya ?_);refine PX hRC (hF.heap (i:=3) O) ?_;have hF:=(FR.put hF 3 (RC .ready) rfl).drop 2;exact⟨O,_,⟨_,_,_,hS0_o,λy hy=>(mQ.1 hy).elim (hok1 y) (λh=>by rw[pQ.1 h];exact hxk),O⟩,by simpa using hF⟩;rintro v w ⟨u,⟨A,c,sb,hS,hok1,rfl⟩,hF⟩;refine⟨.ready,by simp,hF.heap (i:=0) O,?_⟩;have hF:=FR.put hF 0 (RC .exhausted) rfl;generalize w.putObj l (RC .exhausted)=w at hF ⊢;have hF:FR w0 [] ([(l,RC .exhausted),(D,.deferred (some [])),(ba,.cells #[.string (bs s)] 9),(b4,.cells #[.slice (A) ((Ze s).1.length) (c)] 131),(b3,.cells #[J 0] 25),(b2,.cells #[J 0] 3),(b1,.cells #[aQ] 131)]++(sb++[])) w:=by simpa using hF
 refine Ya (Ha (Ga (Ja (Xb (Ie uQ O hF.F 3 O O) (Ba (Ad O) (Ba (Sk kX O) ?_))))));refine Ro (.slice _ _ _) hF sizeOf131 O O sI6.app Pi ?_;rintro w hF -;refine Ro (.int _ _) hF sizeOf3 O O sI5.app Pi ?_;rintro w hF -;refine Ro (.int _ _) hF sizeOf25 O O sI4.app Pi ?_;rintro w hF -;refine Va (Ha ?_);have hF9:=FR.put hF 1 (.deferred none) rfl;refine Db (Cb (QW (hF.heap (i:=1) O) (res_3c O O O O uQ xQ isAgg25 (hF9.cell 6 O O) (hF9.cell 5 O O) (hF9.cell 4 O O)) ?_));refine⟨A,c,O,?_,hok1,hF9.same⟩;exact SlB.rep (pre:=[(l,RC .exhausted),(D,.deferred none),(ba,.cells #[.string (bs s)] 9),(b4,.cells #[.slice (A) ((Ze s).1.length) (c)] 131),(b3,.cells #[J 0] 25),(b2,.cells #[J ((((s):Str).length:Int))] 3),(b1,.cells #[.slice (A) ((Ze s).1.length) (c)] 131)]) (post:=[]) hS hF9 (RX.plain (ids:=[]) λS=>tk_reps _ hok1) (by simp)
end Go.Scarf.Fn
namespace Go.Scarf
open Go.RowKit Go.Proofs Go.Proofs.Tryz
theorem Rep.tok_at{S:Nat->Prop}{w:World}{l:List Tk}{A:Option Addr}{len c:Nat}(h:Rep S w (Tm l) [.slice A len c]){i:Nat}(hi:i<l.length) :
    ∃ad,A=some ad/\S (ad.add (i*3)).block/\∀j (hj:j<[Value.int .i64 l[i].k,J (l[i].f:Nat),J (l[i].t:Nat)].length),w.cell? ((ad.add (i*3)).add j)=some [Value.int .i64 l[i].k,J (l[i].f:Nat),J (l[i].t:Nat)][j]:=by
  obtain⟨ad,hA,hk⟩:=h.tok_elem hi;refine⟨ad,hA,?_,hk⟩;obtain⟨A',c',e,-,-,hr⟩:=Rep.slice_inv h;simp only[List.cons.injEq,Value.slice.injEq,and_true]at e;obtain⟨rfl,-,rfl⟩:=e;obtain⟨ad',e2,es,hc,hl⟩:=hr (λe=>by have:=congrArg List.length e;simp at this;rw[this]at hi;cases hi);subst hA;obtain rfl:=lQ e2;have hne:0<es.length:=by
    cases l with
    | nil=>cases hi
    | cons x xs=>obtain⟨c1,c2,rfl,h1,-⟩:=RepL.cons_inv hl;obtain rfl:=T5 h1;simp
  rw[Pd];exact (hc 0 hne).2
def PQ(s:Str):List Tk:=(Ze s).1.filter λt=>decide (t.k≠1)
def E5(s:Str):Ps:=⟨PQ s,0,0,[],0,0⟩
theorem IS{s:Str}(h:∀y∈(Ze s).1,M9 y):∀y∈PQ s,M9 y:=λy hy=>h y (List.mem_filter.1 hy).1
theorem p0_NP{s:Str}(h:∀y∈(Ze s).1,M9 y):NP (E5 s):=⟨⟨Nat.zero_le _,by simp[E5]⟩,by simp[E5],λx hx=>by have:=IS h x hx;unfold M9 at this;exact⟨by omega,by omega⟩,Nat.zero_le _⟩
theorem p0_Jp{w1 w:World}{Ds:List Nat}{b1 b2:Nat}{o:Obj}{sts:List (Nat × Obj)}{s:Str}{A:Option Addr}{c:Nat}(hF:FR w1 Ds ([(b2,.cells (Iu s A c (E5 s) none 0).toArray 138),(b1,o)]++(sts++[])) w)(hS:SlB 140 3 A (PQ s).length c (Fn.tkCs (PQ s)) sts)(hok:∀y∈PQ s,M9 y) :
    Jp (λx=>x<w.heap.size/\x≠b1/\x≠b2) w [(b1,o)] [(b2,.cells (Iu s A c (E5 s) none 0).toArray 138)] b2 s (E5 s):=by
  have hd:=List.pairwise_append.1 hF.desc;refine⟨⟨none,A,0,c,[],[],[],O,SlB.nil _ _,.nil,hS.repOf (λq hq=>?_) (Fn.tk_reps _ hok) (by rw[rQ];rfl)⟩,λx hx=>⟨hx.1,λhm=>?_⟩,?_,λq hq=>?_⟩
  ·have hq' : q ∈ sts ++ [] := by simpa using hq
   have ho:=hF.own q (List.mem_append_right _ hq');exact⟨ho.1,Ac ho.1,hd.2.2 (b1,o) Oa q hq',hd.2.2 (b2,_) List.mem_cons_self q hq'⟩
  ·simp only[ids, qQ, jQ, List.map_cons, List.map_nil, List.cons_append, List.nil_append, oQ, List.not_mem_nil, or_false]at hm
   rcases hm with h|h
   ·exact hx.2.1 h
   exact hx.2.2 h
  ·have := (List.pairwise_cons.1 hd.1).1 (b1, o) Oa
   simp;exact λe=>this e.symm
  simp only[qQ, List.cons_append, List.nil_append, oQ, List.not_mem_nil, or_false]at hq;rcases hq with rfl|rfl
  ·exact (hF.own _ Oa).1
  exact (hF.own _ Oa).1
theorem ZV{w0 w2 w:World}{sm0 own sl sb:List (Nat × Obj)}{A:Option Addr}{c:Nat}{vals:List Value}{l:List Nd}(hF:FR w2 (ids sm0) (own++([]++(sl++(sb++[])))) w)(h1:SlB 145 7 A l.length c vals sl)(h2:NdsAt 3 136 l vals sb)(hnd:∀x∈l,NdOk x)(hlow:∀x,w2.heap.size<=x\/x∈ids sm0->w0.heap.size<=x) :
    Rep (Btw w0 w) w (.slice (l.map ndD)) [.slice A l.length c]:=by
  have hb:∀q∈sl++sb,(∃cs T,q.2=.cells cs T)->w.heap[q.1]? = some q.2/\Btw w0 w q.1:=λq hq ⟨cs,T,e⟩=>by
    have ho:=hF.own q (by simp only[List.nil_append,qQ];exact List.mem_append_right _ hq);exact⟨ho.1,hlow _ ho.2,Ac ho.1,cs,T,by rw[<-e];exact ho.1⟩
  exact h1.repOf (λq hq=>hb q (List.mem_append_left _ hq) (by obtain⟨cur,e⟩:=h1.typ1.2 q hq;exact⟨_,_,e⟩)) (nds_rep h2 hnd λq hq=>hb q (List.mem_append_right _ hq) (h2.soft q hq)) Oa
def I4(p:Ps):Prop:=∀t∈p.rest,t.k≠2
theorem ZX(p q:Ps)(h:q.rest <:+ p.rest)(hp:I4 p):I4 q:=λt ht=>hp t (h.subset ht)
theorem OO(p:Ps)(t:Tk)(r:List Tk)(hp:I4 p)(hr:p.rest=t::r):t.k≠2:=hp t (by rw[hr];exact List.mem_cons_self)
theorem XX{s:Str}(hok:(Ze s).2.2=0){b:Bool}{q:Ps}(hr:Sg s 32 0 0 (E5 s)=(b,q)):Vf s=if b=false then ([],q.at_,q.err) else if q.rest≠[] then ([],q.here s.length,2) else (q.nodes,s.length,0):=by
  unfold Vf;dsimp only;rw[if_neg (by rw[hok];decide)];unfold E5 PQ at hr;rw[hr]
theorem HC{l:List Tk}{j:Nat}(hj:j<l.length):(l.take (j+1)).filter (λt=>decide (t.k≠1))=(l.take j).filter (λt=>decide (t.k≠1))++(if l[j].k≠1 then [l[j]] else []):=by
  rw[iQ hj,List.filter_append]
  congr 1
  by_cases h:l[j].k=1 <;> simp[h]
theorem Wt{P:Program}{n:Nat}{s:Nat->Value}{w:World}{fn:Func}{t T u x:Nat}{a:Addr}{l:List Value}{m:Nat}{v y:Value}(h:fn.results=#[.cell t T,.tmp u,.tmp x])(hx:ev n s (.tmp t)=.pointer (some a))(ha:∀w,(isAgg T).run P w=.ok true w)(hs:∀w,(sizeOf T).run P w=.ok m w)(hm:l.length=m)
    (hc:∀j (h:j<l.length),w.cell? (a.add j)=some l[j]) (hv:ev n s (.tmp u)=v) (hy:ev n s (.tmp x)=y):(results fn (Kl n s).tmps).run P w=.ok (.tuple #[.agg l.toArray,v,y]) w:=by
  have h1:=Kf n s t;have h2:=Kf n s u;have h3:=Kf n s x;rw[hx,Array.getD_eq_getD_getElem?]at h1;rw[hv,Array.getD_eq_getD_getElem?]at h2;rw[hy,Array.getD_eq_getD_getElem?]at h3;simp[results,h,h1,h2,h3,asAddr,Rt ha hs hm hc]
theorem low_two{w0 w1 w2:World}{b1 b2:Nat}{sm0:List (Nat × Obj)}(h1:Same [] w0 w1)(h2:Same [b1] w1 w2)(hb1:w0.heap.size<=b1)(hb2:w1.heap.size<=b2)(e:ids sm0=[b1,b2]):∀x,w2.heap.size<=x\/x∈ids sm0->w0.heap.size<=x:=λx hx=>by
  have k1:=h1.size;have k2:=h2.size;rw[e]at hx;simp only[oQ,List.not_mem_nil,or_false]at hx;omega
theorem Yy{w0 w1 w2 w:World}{b1:Nat}{Ds:List Nat}(h1:Same [] w0 w1)(h2:Same [b1] w1 w2)(h3:Same Ds w2 w)(hb1:w0.heap.size<=b1)(hlow:∀x,w2.heap.size<=x\/x∈Ds->w0.heap.size<=x):Same [] w0 w :=
  ⟨h3.os.trans (h2.os.trans h1.os),h3.tape.trans (h2.tape.trans h1.tape),h3.output.trans (h2.output.trans h1.output),fQ h1.size (fQ h2.size h3.size),λb hb _=>by
    have hq1:=h1.size;have hq2:=h2.size;rw[h3.block b Aa (λh=>by have:=hlow b (.inr h);omega),h2.block b Aa (λh=>by rw[pQ.1 h]at hb;omega),h1.block b hb Oa]⟩
theorem RA(s:Str):∀(f a:Nat)(out:List Tk),(R8 f s a out).1.length<=out.length+(s.length-a)
  | 0,a,out=>by simp[R8]
  | f + 1, a, out => by
    rw[R8];split
    ·rename_i hlt
     split
     ·rename_i h0
      have h1:=AM hlt h0;have h2:=RA s f (Zh s a).1.t (out++[(Zh s a).1]);simp only[dQ,kQ,List.length_nil]at h2;omega
     exact Nat.zero_le _
    exact Nat.le_add_right _ _
theorem DW(s:Str):(Ze s).1.length<=s.length:=by
  unfold Ze;split
  ·exact Nat.zero_le _
  have := RA s (s.length + 1) 0 [];simpa using this
theorem par_ge{w1 w:World}{b1 b2:Nat}{o1 o2:Obj}{r:List (Nat × Obj)}(hF:FR w1 [b1] ([(b2,o2),(b1,o1)]++r) w):w1.heap.size<=b2:=by
  rcases hF.geD (i:=0) rfl with h|h
  ·exact h
  exact absurd (pQ.1 h).symm ((List.pairwise_cons.1 (List.pairwise_append.1 hF.desc).1).1 (b1,o1) Oa)
theorem XN(s:Str)(hU:UniC s)(hl:s.length<=65536)(hok:(Ze s).2.2=0)(hno:I4 (E5 s))(w0:World)(hG:Gl w0):Calls prog 74 #[.string (bs s)] w0 (Yc λv w'=>∃A c tx,v=.tuple #[.agg #[.string (bs tx),.slice A (Vf s).1.length c],J ((Vf s).2.1:Nat),J (Vf s).2.2]/\((Vf s).2.2=0/\(Vf s).1≠[]->tx=s)/\Rep (Btw w0 w') w' (.slice ((Vf s).1.map ndD)) [.slice A (Vf s).1.length c]/\(∀x∈(Vf s).1,NdOk x)/\NB (Vf s).1/\Same [] w0 w'):=by
 refine Fa func74 O ntmps74 Ab (Wb _) ?_;have hF:=FR.start w0 [];refine Ea (Pc (cs:=#[.string (bs []),aQ]) hF zeroValue99 O ?_);rintro b1 w hb1 hF -;refine Ba (Fb O) (Ba (Fb O) (Lb (Ba (Ad O) ?_)));refine Eb (Fn.tokens_c s hU hl hok _ (hG.ext hF.same)) (Ma en_112 O O) ?_;have hwb:b1<_:=hF.lt (i:=0) rfl;rintro _ w ⟨AT,cT,rfl,hT,hTk,hE⟩;have hF:=hF.ext hE;refine Ba (Mj O) (Ba (yxl O O) (Ba (Rj O O) (Ba (Rj O O) (Ba (Yi O) (Ba (Fb O) (Ba (Fb O) (Da (Ga (Ga ?_)))))))));obtain⟨w1,hw1⟩:∃x,x=w:=⟨_,rfl⟩;have hS1:Same [] w0 w1:=by rw[hw1];exact hF.same
 have hb1:=hF.ge (i:=0) rfl;have hF1:FR w1 [b1] [(b1,.cells #[.string (bs []),aQ] 99)] w:=by subst hw1;exact FR.open_ (λq hq=>by rw[pQ.1 hq];exact⟨hF.heap (i:=0) rfl,by simp⟩) Oa
 rw[<-hw1]at hT;clear hF;have hF:=hF1;clear hF1;refine Ja (Ba (Za O) (Ba (Wm O O) (Da ?_)));refine Zd (by rfl) (Ka (Ha (Ea (Ba (Ad O) ?_))));refine Ia (w':=w) (v:=.agg #[.string (bs s),aQ,J 0,J 0,aQ,J 0,J 0]) Qb (Ce hF O ?_);rintro b2 w hb2 hF -;refine Ba (yap O) (Da (Ga (Ea (Ba (Hd O) (Ba (Nf xZ O) (Ba (Za O) (Da (Qa ?_))))))));refine Fc (λμ σ w=>∃(j:Nat),∃(rs:List Tk),∃(A2:Option Addr),∃(c2:Nat),∃(sts:List (Nat × Obj)),μ=(Ze s).1.length-j/\(j<=(Ze s).1.length)/\(rs=((Ze s).1.take j).filter (λt=>decide (t.k≠1)))/\(SlB 140 3 A2 rs.length c2 (Fn.tkCs rs) sts)/\AllEq σ [(0,.string (bs s)),(2,V b1),(8,V b2),(26,.slice (AT) ((Ze s).1.length) (cT)),(27,J (((Ze s).1.length:Nat))),(28,J ((j:Int)))]/\FR w1 [b1] ([(b2,.cells #[.string (bs s),.slice A2 rs.length c2,J 0,J 0,aQ,J 0,J 0] 138),(b1,.cells #[.string (bs []),aQ] 99)]++(sts++[])) w) _ ⟨0,[],none,0,[],O,(Nat.zero_le _),(O),(SlB.nil _ _),Du,hF⟩ ?_;rintro μ σ w ⟨j,rs,A2,c2,sts,rfl,hj,hrs,hS,hs,hF⟩;refine Cg.slots hs ?_;clear hs;intro σ;have htl:=DW s;have hrl:rs.length<=65536:=by rw[hrs];exact fQ (List.length_filter_le _ _) (by rw[List.length_take];omega)
 refine Ea (Ba (Pg O O) (Da (Ga ?_)));refine Jb O O (λhc1=>?_) (λhc1=>?_);refine Ka (Ha (Ga (Qa (Ga ?_))));have hjl:j<(Ze s).1.length:=by omega
 obtain⟨ad,hA,hSb,hk⟩:=hT.tok_at hjl;have hSa:(ad.add (j*3)).block≠b1:=λe=>by have:=hSb.1;rw[e]at this;omega
 refine Ja (Ia (v:=.pointer (some (ad.add (j*3)))) (Na (i:=(j:Int)) Cz O hA O Aa Aa) ?_);refine Ia (Wa (l:=[J (Ze s).1[j].k,J ((Ze s).1[j].f:Nat),J ((Ze s).1[j].t:Nat)]) wQ kZ O O (hF.cellsE (by rw[pQ];exact hSa) hk)) ?_;refine If hF lX kZ O ?_;rintro b3 w hb3 hF -;refine Lb (Ba (Mb YG O) (Xb (Zg xQ O hF.F 0 O O) (Ba (Wm O O) (Da ?_))));refine Jb O O (λhc2=>?_) (λhc2=>?_);refine Md ⟨[10],λwq=>FR w1 [b1] [(b3,.cells #[J ((Ze s).1[j].k),J (((Ze s).1[j].f:Nat)),J (((Ze s).1[j].t:Nat))] 140),(b1,.cells #[.string (bs []),aQ] 99)] wq,[8]⟩ (bQ [0,1,2,3,4,5] (.act 6 (.act 7 (.free 8 (.free 9 (.act 10 .nil)))))) hF ?_;rintro w hF -;refine⟨λwq=>FR w1 [b1] [(b3,.cells #[J ((Ze s).1[j].k),J (((Ze s).1[j].f:Nat)),J (((Ze s).1[j].t:Nat))] 140),(b2,.cells #[.string (bs s),.slice A2 rs.length c2,J 0,J 0,aQ,J 0,J 0] 138),(b1,.cells #[.string (bs []),aQ] 99)] wq,hF.mid 0 3,?_⟩;refine Ib O (Uh O) (Ib O (Uh O) (Ib O (Ek O) (Ib O (Mb Xk O) (Ng O (Ie uQ O C0 1 O O) (Ng O (Bf wQ kZ O C0 0 O O) ?_)))));refine Jf 1 O hF (Gb (cs:=#[J ((Ze s).1[j].k),J (((Ze s).1[j].f:Nat)),J (((Ze s).1[j].t:Nat))]) xZ kZ lX Ua Ua Qb) ?_;rintro b4 w hb4 hF -;refine⟨hF.mid 1 3,?_⟩;refine IL (news:=[J ((Ze s).1[j].k),J (((Ze s).1[j].f:Nat)),J (((Ze s).1[j].t:Nat))]) (len':=(rs++[(Ze s).1[j]]).length) (ys:=(Fn.tkCs (rs++[(Ze s).1[j]]))) O el_131 hF hS O O (O) (λ_=>⟨_,O,Jc (hF.cellsAll 0 O)⟩) (by simp[Value.oneCell']) (by simp only[maxLen];omega) Oa (by simp[Fn.tkCs,Fn.tkC]) Aa ?_;intro A0 c0 ts_0 w hS0_ts hF hE hnew;refine⟨hF.mid 1 3,?_⟩;refine Ib O (Ek O) (Ib O (Mb Xk O) ?_);refine Q_ (.slice _ _ _) O hF sizeOf131 O O V3 Tr ?_;rintro w hF -;refine⟨hF.sub (.cons _ (.cons_cons _ (.cons _ (.cons_cons _ (List.nil_sublist _))))),?_⟩;refine Ic (Ya (Ha (Ja (Ba (Bi (((j+1:Nat):Int)) O O) (Ba (Za O) (Va ?_))))))
 refine Ta ⟨_,?_,j+1,(rs++[(Ze s).1[j]]),A0,c0,ts_0,O,Aa,(by rw[HC hjl,<-hrs,if_pos hc2]),(hS0_ts),Du,hF.drop 2⟩;omega;refine Ka (Ya (Ha (Ja (Ba (Bi (((j+1:Nat):Int)) O O) (Ba (Za O) (Va ?_))))));refine Ta ⟨_,?_,j+1,rs,A2,c2,sts,O,Aa,(by rw[HC hjl,<-hrs,if_neg hc2,qQ]),(hS),Du,hF.drop 1⟩;omega;refine Bc (Yb O ?_);refine Ha (Ga ?_);have hjn:j=(Ze s).1.length:=by omega
 obtain rfl:rs=PQ s:=by rw[hrs,hjn,List.take_length];rfl
 obtain⟨w2,hw2⟩:∃x,x=w:=⟨_,rfl⟩;have hS2:Same [b1] w1 w2:=by rw[hw2];exact hF.same
 have hb2:=par_ge hF;have hJ0:=p0_Jp (o:=.cells #[.string (bs []),aQ] 99) hF hS (IS hTk);rw[<-hw2]at hJ0;have hM0:Mc w2 ([(b1,.cells #[.string (bs []),aQ] 99)]++[(b2,.cells (Iu s A2 c2 (E5 s) none 0).toArray 138)]) w2 ([(b1,.cells #[.string (bs []),aQ] 99)]++[(b2,.cells (Iu s A2 c2 (E5 s) none 0).toArray 138)]):=Mc.ext (Same.refl _ _);have hlow:=low_two hS1 hS2 hb1 hb2 (sm0:=([(b1,.cells #[.string (bs []),aQ] 99)]++[(b2,.cells (Iu s A2 c2 (E5 s) none 0).toArray 138)])) rfl;have hG2:Gl w2:=(hG.ext hS1).same hS2 (λb hb=>by rw[pQ.1 hb];exact fQ hG.size hb1);have hlo:∀b∈ids ([(b1,.cells #[.string (bs []),aQ] 99)]++[(b2,.cells (Iu s A2 c2 (E5 s) none 0).toArray 138)]),8<=b:=λb hb=>fQ hG.size (hlow b (.inr hb));have hF:FR w2 (ids ([(b1,.cells #[.string (bs []),aQ] 99)]++[(b2,.cells (Iu s A2 c2 (E5 s) none 0).toArray 138)])) [] w:=by subst hw2;exact⟨Same.refl _ _,by simp,by simp⟩
 clear hM0;refine Ja (Ba (Uh O) ?_);refine Ia (w':=w) (v:=.agg #[J 0,J 0]) Qb (Eb (valueJ_c s hl _ b2 I4 ZX OO 32 Aa 0 0 (E5 s) 1 _ _ w Aa Aa Aa (hw2▸hG2) hlo hno (p0_NP hTk) (hw2▸hJ0)) (Af XZ O O O O) ?_);obtain⟨bo,q,hr⟩:∃x y,Sg s 32 0 0 (E5 s)=(x,y):=⟨_,_,rfl⟩;have hvo:=Nw hl 32 0 0 (E5 s) Aa Aa (p0_NP hTk);rw[hr]at hvo ⊢;have hpe:=XX hok hr;rw[<-hw2];rintro _ w ⟨rfl,sm3,hJ3,hM3⟩;obtain⟨A,Ar,c,cr,sl,vals,sb,hF,h1,h2,h3⟩:=Jp.openN (own:=[(b1,.cells #[.string (bs []),aQ] 99)]) (ex:=[]) hJ3 hM3 hJ0.off;have hF:FR w2 (ids ([(b1,.cells #[.string (bs []),aQ] 99)]++[(b2,.cells (Iu s A2 c2 (E5 s) none 0).toArray 138)])) ([(b1,.cells #[.string (bs []),aQ] 99),(b2,.cells #[.string (bs s),.slice Ar q.rest.length cr,J ((q.lf:Nat)),J ((q.lt:Nat)),.slice A q.nodes.length c,J ((q.at_:Nat)),J (q.err)] 138)]++([]++(sl++(sb++[])))) w:=hF;refine Ba (Kb O) (Da (Ga (Ea ?_)));rcases Bool.eq_false_or_eq_true bo with hbo|hbo
 subst hbo;refine Ba (Dc O) (Ba (Dc O) (Ba (Uh O) (Ba (Ek O) (Ba (Mb Xk O) (Xb (Ie uQ O hF.F 1 O O) (Ba (Nf xZ O) (Ba (Mo O O) (Ba (Rb O O) (Da ?_)))))))));refine Jb O O (λhc3=>?_) (λhc3=>?_);have hne:q.rest≠[]:=λh=>by rw[h]at hc3;exact absurd hc3 Ua
 refine Ja (Ba (Uh O) ?_);refine Eb (V9 hJ3 2) (Xa Z7 O O O) ?_;rintro _ w ⟨rfl,sm7,hJ7,hM7⟩;have hM7:=hM3.trans hM7;obtain⟨A,Ar,c,cr,sl,vals,sb,hF,h1,h2,h3⟩:=Jp.openN (own:=[(b1,.cells #[.string (bs []),aQ] 99)]) (ex:=[]) hJ7 hM7 hJ0.off;have hF:FR w2 (ids ([(b1,.cells #[.string (bs []),aQ] 99)]++[(b2,.cells (Iu s A2 c2 (E5 s) none 0).toArray 138)])) ([(b1,.cells #[.string (bs []),aQ] 99),(b2,.cells #[.string (bs s),.slice (Ar) ((q.fail s.length 2).rest.length) (cr),J (((q.fail s.length 2).lf:Nat)),J (((q.fail s.length 2).lt:Nat)),.slice (A) ((q.fail s.length 2).nodes.length) (c),J (((q.fail s.length 2).at_:Nat)),J ((q.fail s.length 2).err)] 138)]++([]++(sl++(sb++[])))) w:=hF;refine Ba (Kb O) (Da (Ga (Ea (Ba (Dc O) (Ba (Di (b:=false) O) (Da (Yd O (Ga ?_))))))));refine Md (.of []) (bQ [0,1,2,3,4,5,6,7,8] (.act 9 (.free 10 (.free 11 .nil)))) hF ?_;rintro w hF -;refine⟨λwq=>FR w2 (ids ([(b1,.cells #[.string (bs []),aQ] 99)]++[(b2,.cells (Iu s A2 c2 (E5 s) none 0).toArray 138)])) [(b2,.cells #[.string (bs s),.slice (Ar) ((q.fail s.length 2).rest.length) (cr),J (((q.fail s.length 2).lf:Nat)),J (((q.fail s.length 2).lt:Nat)),.slice (A) ((q.fail s.length 2).nodes.length) (c),J (((q.fail s.length 2).at_:Nat)),J ((q.fail s.length 2).err)] 138)] wq,hF.mid 1 1,?_⟩;refine Sa O (v:=.agg #[.string (bs []),aQ]) (λw hC=>by kernel_rfl) (Ib O (Uh O) (Ib O (Ek O) (Ib O (Mb N6 O) (Ng O (Zg xQ O C0 0 O O) (Ib O (Uh O) (Ib O (Ek O) (Ib O (Mb Y7 O) (Ng O (Zg isAgg25 O C0 0 O O) ?_))))))));refine Gx O hF uZ O O Pi ?_;rintro w hF -;refine⟨hF.mid 1 1,?_⟩;refine Ib O (Fb O) (Ib O (Fb O) (Ic (Ha ?_)));refine Db (Cb (La (Wt O (l:=[.string (bs []),aQ]) O isAgg99 uZ O (hF.cellsAll 0 O) (v:=J (((q.fail s.length 2).at_:Nat))) O (y:=J ((q.fail s.length 2).err)) O) ?_));have hSw:Same [] w0 w:=Yy hS1 hS2 hF.same hb1 hlow
 have hpe2:Vf s=([],q.here s.length,2):=by rw[hpe,if_neg Ua,if_pos hne]
 rw[hpe2];exact⟨none,0,[],O,λh=>absurd O h.2,Rep.slice_mk O (gQ _) Ua (λh=>absurd O h),(λx hx=>by cases hx),⟨Nat.zero_le _,(λx hx=>by cases hx)⟩,hSw⟩;have hne:¬q.rest≠[]:=λh=>hc3 (by have:=List.length_pos_iff.2 h;show (0:Int)<((q.rest.length:Nat):Int);omega);refine Ka (Ha (Ga (Ea (Ba (Dc O) (Ba (Di (b:=true) O) (Da (R0 O (Ea ?_))))))));refine Ba (Ad O) (Ba (Uh O) (Ba (Ek O) (Ba (Mb No O) (Xb (Ie isAgg97 O hF.F 1 O O) ?_))));refine Ia (w':=w) (v:=.agg #[.string (bs s),.slice A q.nodes.length c]) Qb (Ba (Ad O) (Ba (Sk kX O) ?_));refine Ge hF uZ O O Pi ?_;rintro w hF -;refine Ba (Fb O) (Ba (Fb O) (Da ?_));refine Db (Cb (La (Wt O (l:=[.string (bs s),.slice A q.nodes.length c]) O isAgg99 uZ O (hF.cellsAll 0 O) (v:=J ((((s):Str).length:Int))) O (y:=J 0) O) ?_));have hSw:Same [] w0 w:=Yy hS1 hS2 hF.same hb1 hlow;have hpe2:Vf s=(q.nodes,s.length,0):=by rw[hpe,if_neg Ua,if_neg hne]
 rw[hpe2];exact⟨A,c,s,O,λ_=>rfl,ZV (own:=[_,_]) hF h1 h2 hvo.1.nd hlow,hvo.1.nd,hvo.1.nb,hSw⟩;subst hbo;refine Ba (Dc O) (Ba (Dc O) (Ca (Ca (Ca (Ca (Ca (Ca (Ba (Pb O O) (Da (R0 O ?_))))))))));refine Ga (Ea (Ba (Dc O) (Ba (Di (b:=false) O) (Da (Yd O (Ga ?_))))));refine Md (.of []) (bQ [0,1,2,3,4,5,6,7,8] (.act 9 (.free 10 (.free 11 .nil)))) hF ?_;rintro w hF -;refine⟨λwq=>FR w2 (ids ([(b1,.cells #[.string (bs []),aQ] 99)]++[(b2,.cells (Iu s A2 c2 (E5 s) none 0).toArray 138)])) [(b2,.cells #[.string (bs s),.slice Ar q.rest.length cr,J ((q.lf:Nat)),J ((q.lt:Nat)),.slice A q.nodes.length c,J ((q.at_:Nat)),J (q.err)] 138)] wq,hF.mid 1 1,?_⟩;refine Sa O (v:=.agg #[.string (bs []),aQ]) (λw hC=>by kernel_rfl) (Ib O (Uh O) (Ib O (Ek O) (Ib O (Mb N6 O) (Ng O (Zg xQ O C0 0 O O) (Ib O (Uh O) (Ib O (Ek O) (Ib O (Mb Y7 O) (Ng O (Zg isAgg25 O C0 0 O O) ?_))))))));refine Gx O hF uZ O O Pi ?_;rintro w hF -;refine⟨hF.mid 1 1,?_⟩;refine Ib O (Fb O) (Ib O (Fb O) (Ic (Ha ?_)));refine Db (Cb (La (Wt O (l:=[.string (bs []),aQ]) O isAgg99 uZ O (hF.cellsAll 0 O) (v:=J ((q.at_:Nat))) O (y:=J (q.err)) O) ?_));have hSw:Same [] w0 w:=Yy hS1 hS2 hF.same hb1 hlow;have hpe2:Vf s=([],q.at_,q.err):=by rw[hpe,if_pos rfl]
 rw[hpe2];exact⟨none,0,[],O,λh=>absurd O h.2,Rep.slice_mk O (gQ _) Ua (λh=>absurd O h),(λx hx=>by cases hx),⟨Nat.zero_le _,(λx hx=>by cases hx)⟩,hSw⟩
end Go.Scarf
