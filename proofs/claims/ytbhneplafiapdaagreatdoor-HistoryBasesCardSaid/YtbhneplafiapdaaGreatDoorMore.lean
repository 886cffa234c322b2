/- A part of the proof. -/
import Derived.Laws.RangeAny
import Derived.Laws.RangeString
import Derived.Test.YtbhneplafiapdaaGreatDoorMem
import Derived.WideLaws
import Derived.Laws.Small
import Derived.Laws.AppendOwn
import Derived.WalkSpells
import Derived.LaidEqlPtr
import Derived.Laws.IdiomRangeMap
import Derived.Sort.KeysCollected
set_option linter.all false
namespace Go.Scarf
open Go.RowKit
section
variable {P:Program}{R:Exit->Act->World->Prop}{n:Nat}{k:Kt}{s:Nat->Value}{w:World}{ops rest:List Oper}
variable {d:Nat}{dst:Option Nat}{op:Op}{ty:TypeId}{pos:String}{aft:Array Edge}{g:Option (Nat × Bool)}{ρ:Operand->Value}
variable {w0:World}{Ds:List Nat}{bs_:List (Nat × Obj)}{C:World->Prop}{zs:Lt}{order:Ord}
theorem To{F:(Nat->Value)->Prop}{b:Bool}(hx:s d=.bool b)(ht:b=true->F (Be s d (.bool true)))(hf:b=false->F (Be s d (.bool false))):F s:=by
  cases b with
  | true=>have:=ht rfl;rwa [Lv s d _ hx]at this
  | false=>have:=hf rfl;rwa [Lv s d _ hx]at this
theorem Cd{b:Bool}(hx:s d=.bool b)(ht:b=true->Og P R n ops k rest (Be s d (.bool true)) w)(hf:b=false->Og P R n ops k rest (Be s d (.bool false)) w):Og P R n ops k rest s w :=
  To (F:=λs=>Og P R n ops k rest s w) hx ht hf
theorem Id{p:Prop}{_:Decidable p}(hx:s d=.bool (decide p))(ht:p->Og P R n ops k rest (Be s d (.bool true)) w)(hf:¬p->Og P R n ops k rest (Be s d (.bool false)) w):Og P R n ops k rest s w :=
  Cd hx (λh=>ht (of_decide_eq_true h)) (λh=>hf (of_decide_eq_false h))
theorem Z9{c:Code}{b:Bool}(hx:s d=.bool b)(ht:b=true->Cg P R n c k (Be s d (.bool true)) w)(hf:b=false->Cg P R n c k (Be s d (.bool false)) w):Cg P R n c k s w :=
  To (F:=λs=>Cg P R n c k s w) hx ht hf
theorem LC{c:Code}{p:Prop}{_:Decidable p}(hx:s d=.bool (decide p))(ht:p->Cg P R n c k (Be s d (.bool true)) w)(hf:¬p->Cg P R n c k (Be s d (.bool false)) w):Cg P R n c k s w :=
  Z9 hx (λh=>ht (of_decide_eq_true h)) (λh=>hf (of_decide_eq_false h))
theorem O9{b:Bool}(hx:s d=.bool b)(ht:b=true->Dg P R n ops k zs order C (Be s d (.bool true)) w)(hf:b=false->Dg P R n ops k zs order C (Be s d (.bool false)) w):Dg P R n ops k zs order C s w :=
  To (F:=λs=>Dg P R n ops k zs order C s w) hx ht hf
theorem Jg{p:Prop}{_:Decidable p}(hx:s d=.bool (decide p))(ht:p->Dg P R n ops k zs order C (Be s d (.bool true)) w)(hf:¬p->Dg P R n ops k zs order C (Be s d (.bool false)) w):Dg P R n ops k zs order C s w :=
  O9 hx (λh=>ht (of_decide_eq_true h)) (λh=>hf (of_decide_eq_false h))
theorem Ml{t:TypeId}{a:Addr}{l:List Value}{m:Nat}(ha:∀w,(isAgg t).run P w=.ok true w)(hs:∀w,(sizeOf t).run P w=.ok m w)(hm:l.length=m)
    (hc:∀j (h:j<l.length),w.cell? (a.add j)=some l[j]):(loadVar t a).run P w=.ok (.agg l.toArray) w:=by
  simp[loadVar,ha,hs,Un a w l hm hc]
variable {fn:Func}
theorem Xm{t T:Nat}{a:Addr}{l:List Value}{m:Nat}(h:fn.results=#[.cell t T])(hx:ev n s (.tmp t)=.pointer (some a))(ha:∀w,(isAgg T).run P w=.ok true w)(hs:∀w,(sizeOf T).run P w=.ok m w)(hm:l.length=m)
    (hc:∀j (h:j<l.length),w.cell? (a.add j)=some l[j]):(results fn (Eh n s).tmps).run P w=.ok (.agg l.toArray) w:=by
  have h1:=Se n s t;rw[hx,Array.getD_eq_getD_getElem?]at h1;simp[results,h,h1,asAddr,Ml ha hs hm hc]
theorem Kd{t T u:Nat}{a:Addr}{l:List Value}{m:Nat}{v:Value}(h:fn.results=#[.cell t T,.tmp u])(hx:ev n s (.tmp t)=.pointer (some a))(ha:∀w,(isAgg T).run P w=.ok true w)(hs:∀w,(sizeOf T).run P w=.ok m w)(hm:l.length=m)
    (hc:∀j (h:j<l.length),w.cell? (a.add j)=some l[j]) (hv:ev n s (.tmp u)=v):(results fn (Eh n s).tmps).run P w=.ok (.tuple #[.agg l.toArray,v]) w:=by
  have h1:=Se n s t;have h2:=Se n s u;rw[hx,Array.getD_eq_getD_getElem?]at h1;rw[hv,Array.getD_eq_getD_getElem?]at h2;simp[results,h,h1,h2,asAddr,Ml ha hs hm hc]
theorem Rq{op:BinOp}{t:TypeId}{x y:Operand}{a b:Bool}:(eqGuard op t x y (.bool a) (.bool b)).run P w=.ok () w:=by
  unfold eqGuard;split <;> simp
theorem Zt{t:TypeId}{a b:Bool}(ht:P.underlying t=some .bool):(Op.equal t (.bool a) (.bool b)).run P w=.ok (a==b) w:=run_equalIn_bool w 9999 t a b ht
theorem UM{t t':TypeId}{x y:Operand}{a b:Bool}(ht:P.underlying t=some .bool)(hx:ρ x=.bool a)(hy:ρ y=.bool b) :
    (execOp ρ ⟨dst,.binOp .eql t x y t',ty,pos,aft,g⟩).run P w=.ok (.value (.bool (a==b))) w:=by
  have h:=Zt (w:=w) (a:=a) (b:=b) ht;have hg:=Rq (P:=P) (w:=w) (op:=.eql) (t:=t) (x:=x) (y:=y) (a:=a) (b:=b);simp only[execOp,hx,hy,binOp,Sem.run_bind,hg,Result.andThen_ok,h,Sem.run_pure]
theorem Wv{t:TypeId}{x:Operand}{str:Str}(hF:FR w0 Ds bs_ w)(ht:P.underlying t=some .string)(hx:ev n s x=.string (bs str))
    (h:∀b w',b=w.heap.size->FR w0 Ds ((b,.stringIter (bs str) 0)::bs_) w'->Same [] w w'->Og P R n ops k rest (Be s d (V b)) w')
    (hw:Ya ops n s ⟨some d,.range t x,ty,pos,aft,g⟩=true:=by rfl):Og P R n ops k (⟨some d,.range t x,ty,pos,aft,g⟩::rest) s w:=by
  refine Oa (w':=w.alloc (.stringIter (bs str) 0)) ?_ (h _ _ O (hF.alloc _) (Same.alloc w _)) hw;have hu:∀w,(underlying t).run P w=.ok .string w:=run_underlying ht;simp[execOp,Instr.range,hu,hx,newObj,Sem.run]
theorem Ts{b:Nat}{a:ByteArray}{p q:Nat}(h:w.heap[b]? = some (.stringIter a p)):(setObj b (.stringIter a q)).run P w=.ok () { w with heap:=w.heap.setIfInBounds b (.stringIter a q) }:=by
  simp[setObj,Sem.run,h]
theorem Xl{b:Nat}{a:ByteArray}{p:Nat}(h:w.heap[b]? = some (.stringIter a p)):(getObj b).run P w=.ok (.stringIter a p) w:=by
  simp[getObj,Sem.run,h]
theorem Zh(w:World)(b:Nat)(o:Obj):Same [b] w { w with heap:=w.heap.setIfInBounds b o } :=
  ⟨rfl,rfl,rfl,by simp,λc _ hn=>by
    show (w.heap.setIfInBounds b o)[c]? = _;rw[Array.getElem?_setIfInBounds_ne];simp at hn;omega⟩
theorem Nz(i:Nat){x:Operand}{b p:Nat}{str:Str}(hF:FR w0 Ds bs_ w)(hx:ev n s x=V b)(hi:bs_[i]? = some (b,.stringIter (bs str) p))(hp:p<str.length)
    (h:∀w',FR w0 Ds (bs_.set i (b,.stringIter (bs str) (p+(Utf8.decode (bs str) p).2))) w'->Same [b] w w' ->
      Og P R n ops k rest (Be s d (.tuple #[.bool true,.int .i64 (p:Int),.int .i32 ((Utf8.decode (bs str) p).1:Int)])) w')
    (hw:Ya ops n s ⟨some d,.next x true,ty,pos,aft,g⟩=true:=by rfl):Og P R n ops k (⟨some d,.next x true,ty,pos,aft,g⟩::rest) s w:=by
  have hh:=hF.heap hi;refine Oa (w':={ w with heap:=w.heap.setIfInBounds b (.stringIter (bs str) (p+(Utf8.decode (bs str) p).2)) }) ?_ (h _ (hF.change i hi (Zh w b _) ?_) (Zh w b _)) hw
  ·have hp' : p<(bs str).size := hp
   generalize bs str=u at *;simp[execOp,Instr.next,hx,Xl hh,hp',Ts hh,goInt]
  have := Qa hh;simp[this]
theorem Vo(i:Nat){x:Operand}{b p:Nat}{str:Str}(hF:FR w0 Ds bs_ w)(hx:ev n s x=V b)(hi:bs_[i]? = some (b,.stringIter (bs str) p))(hp:¬p<str.length)
    (h:Og P R n ops k rest (Be s d (.tuple #[.bool false])) w)
    (hw:Ya ops n s ⟨some d,.next x true,ty,pos,aft,g⟩=true:=by rfl):Og P R n ops k (⟨some d,.next x true,ty,pos,aft,g⟩::rest) s w:=by
  have hh:=hF.heap hi;refine Oa ?_ h hw;have hp':¬p<(bs str).size:=hp;generalize bs str=u at *;simp[execOp,Instr.next,hx,Xl hh,hp']
end
section
variable {P:Program}{f:FuncId}{args:Array Value}{w:World}{v:Value}
theorem Jm(h:Calls P f args w λe w'=>e=.returned v/\w'=w):Calls P f args w (Pd λu w'=>u=v/\Same [] w w') :=
  h.mono λ_ _ ⟨he,hw⟩=>⟨v,he,rfl,by subst hw;exact .refl _ _⟩
theorem Tq(h:Calls P f args w λe w'=>e=.returned v/\Below w.heap.size w w'):Calls P f args w (Pd λu w'=>u=v/\Same [] w w') :=
  h.mono λ_ _ ⟨he,hw⟩=>⟨v,he,rfl,.of_below hw⟩
theorem Hh{v':Value}(h:Calls P f args w (Pd λu w'=>u=v/\Same [] w w'))(e:v=v'):Calls P f args w (Pd λu w'=>u=v'/\Same [] w w'):=e▸h
end
section
variable {P:Program}{R:Exit->Act->World->Prop}{n:Nat}{k:Kt}{s:Nat->Value}{w:World}{ops:List Oper}{zs:Lt}
variable {C:World->Prop}{rest:Ord}{i d:Nat}{op:Op}{ty:TypeId}{pos:String}{aft:Array Edge}{g:Option (Nat × Bool)}
variable {w0:World}{Ds:List Nat}{bs_ bs':List (Nat × Obj)}
theorem FR.sub(h:FR w0 Ds bs_ w)(hs:bs'.Sublist bs_):FR w0 Ds bs' w:=⟨h.same,λp hp=>h.own p (hs.subset hp),h.desc.sublist hs⟩
theorem XK{f:FuncId}{args:Array Value}{w':World}{Q:Value->World->Prop}(hc:Calls P f args w' (Pd Q))(hrun:(execOp (ev n s) ⟨some d,op,ty,pos,aft,g⟩).run P w=.ok (.enter f args) w')
    (h:∀v w'',Q v w''->C w''/\Dg P R n ops k zs rest C (Be s d v) w'')
    (hi:ops[i]? = some ⟨some d,op,ty,pos,aft,g⟩:=by rfl) (hw:Ya ops n s ⟨some d,op,ty,pos,aft,g⟩=true:=by rfl) (hz:zs.contains i=false:=by rfl):Dg P R n ops k zs (.act i rest) C s w :=
  FI hrun hc (λv w'' hq=>⟨C,λ_ h=>h,(h v w'' hq).1,(h v w'' hq).2⟩) hi hw hz
theorem KN{v:Value}{w':World}(hrun:(execOp (ev n s) ⟨some d,op,ty,pos,aft,g⟩).run P w=.ok (.value v) w')(hC:C w')(h:Dg P R n ops k zs rest C (Be s d v) w')
    (hi:ops[i]? = some ⟨some d,op,ty,pos,aft,g⟩:=by rfl) (hw:Ya ops n s ⟨some d,op,ty,pos,aft,g⟩=true:=by rfl) (hz:zs.contains i=false:=by rfl):Dg P R n ops k zs (.act i rest) C s w :=
  CO C (λ_ h=>h) hrun hC h hi hw hz
theorem Xq{t:TypeId}{x y:Operand}{v:Value}{l:List Value}{b off ii:Nat}{cs cs':Array Value}{T:TypeId}{dst:Option Nat}(hF:FR w0 Ds bs_ w)(hs:∀w,(sizeOf t).run P w=.ok l.length w)
    (hx:ev n s x=.pointer (some ⟨b,off,none⟩)) (hy:ev n s y=v) (hl:v.cells=l.toArray) (hv:∀v∈l,one v=true) (hi:bs_[ii]? = some (b,.cells cs T)) (hsz:off+l.length<=cs.size) (hcs:putA cs off l=cs') :
    ∃w',(execOp (ev n s) ⟨dst,.store t x y,ty,pos,aft,g⟩).run P w=.ok .skip w'/\FR w0 Ds (bs_.set ii (b,.cells cs' T)) w'/\Same [b] w w':=by
  have hh:=hF.heap hi;have hsp:=Qj b off (fz:=(0,0)) l 0 w cs hh;refine⟨_,Y7 hs hx hy hl hv λj hj=>?_,?_,hsp.2⟩
  ·have e : (⟨b, off, none⟩ : Addr).add j = ⟨b, off + j, none⟩ := by unfold Addr.add;split <;> simp_all
   rw[e,Wb hh];exact⟨⟨cs[off+j]' Ca,by simp⟩,Wm hh _⟩
  subst hcs;exact hF.change ii hi hsp.2 (by simpa using hsp.1)
theorem BE(ii:Nat){t:TypeId}{x y:Operand}{v:Value}{l:List Value}{b off:Nat}{cs cs':Array Value}{T:TypeId}(hF:FR w0 Ds bs_ w)(hs:∀w,(sizeOf t).run P w=.ok l.length w)
    (hx:ev n s x=.pointer (some ⟨b,off,none⟩)) (hy:ev n s y=v) (hl:v.cells=l.toArray) (hv:∀v∈l,one v=true) (hbi:bs_[ii]? = some (b,.cells cs T)) (hsz:off+l.length<=cs.size) (hcs:putA cs off l=cs')
    (h:∀w',FR w0 Ds (bs_.set ii (b,.cells cs' T)) w'->Same [b] w w'->Dg P R n ops k zs rest (λ_=>True) s w')
    (hi:ops[i]? = some ⟨none,.store t x y,ty,pos,aft,g⟩:=by rfl) (hw:Ya ops n s ⟨none,.store t x y,ty,pos,aft,g⟩=true:=by rfl) (hz:zs.contains i=true:=by rfl) (hDT:zs.D=(λ_=>True):=by rfl) :
    Dg P R n ops k zs (.act i rest) C s w:=by
  obtain⟨w',h1,h2,h3⟩:=Xq (dst:=none) (ty:=ty) (pos:=pos) (aft:=aft) (g:=g) hF hs hx hy hl hv hbi hsz hcs;exact J8 h1 (h w' h2 h3) hi hw hz hDT
theorem JH(ii:Nat){t:TypeId}{x y:Operand}{v:Value}{l:List Value}{b off:Nat}{cs cs':Array Value}{T:TypeId}(hF:FR w0 Ds bs_ w)(hs:∀w,(sizeOf t).run P w=.ok l.length w)
    (hx:ev n s x=.pointer (some ⟨b,off,none⟩)) (hy:ev n s y=v) (hl:v.cells=l.toArray) (hv:∀v∈l,one v=true) (hbi:bs_[ii]? = some (b,.cells cs T)) (hsz:off+l.length<=cs.size) (hcs:putA cs off l=cs')
    (h:∀w',FR w0 Ds (bs_.set ii (b,.cells cs' T)) w'->Same [b] w w'->C w'/\Dg P R n ops k zs rest C s w')
    (hi:ops[i]? = some ⟨none,.store t x y,ty,pos,aft,g⟩:=by rfl) (hw:Ya ops n s ⟨none,.store t x y,ty,pos,aft,g⟩=true:=by rfl) (hz:zs.contains i=false:=by rfl) :
    Dg P R n ops k zs (.act i rest) C s w:=by
  obtain⟨w',h1,h2,h3⟩:=Xq (dst:=none) (ty:=ty) (pos:=pos) (aft:=aft) (g:=g) hF hs hx hy hl hv hbi hsz hcs;unfold Dg Dw NB;rw[hi];simp only[hw,if_true,h1];unfold Dk;rw[hz];have h4:=(h w' h2 h3).2;unfold Dg at h4;exact⟨C,λ_ h=>h,(h w' h2 h3).1,h4⟩
end
section
variable {P:Program}{R:Exit->Act->World->Prop}{n:Nat}{k:Kt}{s:Nat->Value}{w:World}{ops:List Oper}{zs:Lt}
variable {C:World->Prop}{rest:Ord}{i d:Nat}{op:Op}{ty:TypeId}{pos:String}{aft:Array Edge}{g:Option (Nat × Bool)}
variable {w0:World}{Ds:List Nat}{bs_ bs':List (Nat × Obj)}
theorem Vb{v:Value}(hi:ops[i]? = some ⟨some d,op,ty,pos,aft,g⟩)(hrun:∀w,C w->(execOp (ev n s) ⟨some d,op,ty,pos,aft,g⟩).run P w=.ok (.value v) w)(h:Dg P R n ops k zs rest C (Be s d v) w)(hw:Ya ops n s ⟨some d,op,ty,pos,aft,g⟩=true:=by rfl)(hps:zs.ps.contains i=false:=by rfl) :
    Dg P R n ops k zs (.free i rest) C s w:=HL hrun h hi hw hps
theorem Wc(hi:ops[i]? = some ⟨some d,op,ty,pos,aft,g⟩)(h:Dg P R n ops k zs rest C (Be s d undef) w)(hw:Ya ops n s ⟨some d,op,ty,pos,aft,g⟩=false:=by rfl):Dg P R n ops k zs (.free i rest) C s w:=EQ h hi hw
theorem Ou(hi:ops[i]? = some ⟨some d,op,ty,pos,aft,g⟩)(h:Dg P R n ops k zs rest C (Be s d undef) w)(hC:C w)(hw:Ya ops n s ⟨some d,op,ty,pos,aft,g⟩=false:=by rfl)(hz:zs.contains i=false:=by rfl):Dg P R n ops k zs (.act i rest) C s w:=NL h hC hi hw hz
theorem He{f:FuncId}{args:Array Value}{w':World}{Q:Value->World->Prop}(hi:ops[i]? = some ⟨some d,op,ty,pos,aft,g⟩)(hc:Calls P f args w' (Pd Q))(hrun:(execOp (ev n s) ⟨some d,op,ty,pos,aft,g⟩).run P w=.ok (.enter f args) w')
    (h:∀v w'',Q v w''->C w''/\Dg P R n ops k zs rest C (Be s d v) w'') (hw:Ya ops n s ⟨some d,op,ty,pos,aft,g⟩=true:=by rfl) (hz:zs.contains i=false:=by rfl):Dg P R n ops k zs (.act i rest) C s w:=XK hc hrun h hi hw hz
theorem XE{v:Value}{w':World}(hi:ops[i]? = some ⟨some d,op,ty,pos,aft,g⟩)(hrun:(execOp (ev n s) ⟨some d,op,ty,pos,aft,g⟩).run P w=.ok (.value v) w')(hC:C w')(h:Dg P R n ops k zs rest C (Be s d v) w')(hw:Ya ops n s ⟨some d,op,ty,pos,aft,g⟩=true:=by rfl)(hz:zs.contains i=false:=by rfl) :
    Dg P R n ops k zs (.act i rest) C s w:=KN hrun hC h hi hw hz
theorem R3{t:TypeId}{x y:Operand}{v:Value}{l:List Value}{b off:Nat}{cs cs':Array Value}{T:TypeId}(hi:ops[i]? = some ⟨none,.store t x y,ty,pos,aft,g⟩)(ii:Nat)(hF:FR w0 Ds bs_ w)(hs:∀w,(sizeOf t).run P w=.ok l.length w)
    (hx:ev n s x=.pointer (some ⟨b,off,none⟩)) (hy:ev n s y=v) (hl:v.cells=l.toArray) (hv:∀v∈l,one v=true) (hbi:bs_[ii]? = some (b,.cells cs T)) (hsz:off+l.length<=cs.size) (hcs:putA cs off l=cs')
    (h:∀w',FR w0 Ds (bs_.set ii (b,.cells cs' T)) w'->Same [b] w w'->Dg P R n ops k zs rest (λ_=>True) s w') (hw:Ya ops n s ⟨none,.store t x y,ty,pos,aft,g⟩=true:=by rfl) (hz:zs.contains i=true:=by rfl) (hDT:zs.D=(λ_=>True):=by rfl) :
    Dg P R n ops k zs (.act i rest) C s w:=BE ii hF hs hx hy hl hv hbi hsz hcs h hi hw hz hDT
theorem DI{t:TypeId}{x y:Operand}{v:Value}{l:List Value}{b off:Nat}{cs cs':Array Value}{T:TypeId}(hi:ops[i]? = some ⟨none,.store t x y,ty,pos,aft,g⟩)(ii:Nat)(hF:FR w0 Ds bs_ w)(hs:∀w,(sizeOf t).run P w=.ok l.length w)
    (hx:ev n s x=.pointer (some ⟨b,off,none⟩)) (hy:ev n s y=v) (hl:v.cells=l.toArray) (hv:∀v∈l,one v=true) (hbi:bs_[ii]? = some (b,.cells cs T)) (hsz:off+l.length<=cs.size) (hcs:putA cs off l=cs')
    (h:∀w',FR w0 Ds (bs_.set ii (b,.cells cs' T)) w'->Same [b] w w'->C w'/\Dg P R n ops k zs rest C s w') (hw:Ya ops n s ⟨none,.store t x y,ty,pos,aft,g⟩=true:=by rfl) (hz:zs.contains i=false:=by rfl) :
    Dg P R n ops k zs (.act i rest) C s w:=JH ii hF hs hx hy hl hv hbi hsz hcs h hi hw hz
end
section
variable {P:Program}{R:Exit->Act->World->Prop}{n:Nat}{k:Kt}{s:Nat->Value}{w:World}{ops rest:List Oper}
variable {d:Nat}{ty:TypeId}{pos:String}{aft:Array Edge}{g:Option (Nat × Bool)}
variable {w0:World}{Ds:List Nat}{bs_:List (Nat × Obj)}{ρ:Operand->Value}{dst:Option Nat}
theorem Gc{t e len size:Nat}{parts:Array (Nat × Operand)}{z:Value}{cs:Array Value}(ht:P.underlying t=some (.slice e))(hs:∀w,(sizeOf e).run P w=.ok size w)(hz:∀w,(zeroValue e).run P w=.ok z w)
    (h1:(len*size<=16777216)=True) (h0:(len*size=0)=False)
    (hf:Instr.fill (λi=>some (i*size,size)) ((Array.range (len*size)).map (z.cells[· % z.cells.size]!)) (parts.toList.map λx=>(x.1,ρ x.2))=some cs) :
    (execOp ρ ⟨dst,.buildSlice t len parts,ty,pos,aft,g⟩).run P w=.ok (.value (.slice (some ⟨w.heap.size,0,none⟩) len len)) (w.alloc (.cells cs e)):=by
  have hu:∀w,(underlying t).run P w=.ok (.slice e) w:=run_underlying ht;have h1':¬2 ^ 24<len*size:=by have:=of_eq_true h1;omega
  have h0':¬len*size=0:=by rw[h0];simp
  simp[execOp,Instr.buildSlice,hu,hs,hz,h1',h0',hf,newRow,newObj,Sem.run]
theorem Iq{v:Nat->Value}{o:Obj}{op:Op}(hF:FR w0 Ds bs_ w)(hrun:(execOp (ev n s) ⟨some d,op,ty,pos,aft,g⟩).run P w=.ok (.value (v w.heap.size)) (w.alloc o))
    (h:∀b w',b=w.heap.size->FR w0 Ds ((b,o)::bs_) w'->Same [] w w'->Og P R n ops k rest (Be s d (v b)) w')
    (hw:Ya ops n s ⟨some d,op,ty,pos,aft,g⟩=true:=by rfl):Og P R n ops k (⟨some d,op,ty,pos,aft,g⟩::rest) s w :=
  Oa hrun (h _ _ rfl (hF.alloc _) (Same.alloc w _)) hw
theorem Ur{C:World->Prop}{order:Ord}{zs:Lt}{i:Nat}{v:Nat->Value}{o:Obj}{op:Op}(hi:ops[i]? = some ⟨some d,op,ty,pos,aft,g⟩)(hF:FR w0 Ds bs_ w)(hrun:(execOp (ev n s) ⟨some d,op,ty,pos,aft,g⟩).run P w=.ok (.value (v w.heap.size)) (w.alloc o))
    (h:∀b w',b=w.heap.size->FR w0 Ds ((b,o)::bs_) w'->Same [] w w'->C w'/\Dg P R n ops k zs order C (Be s d (v b)) w')
    (hw:Ya ops n s ⟨some d,op,ty,pos,aft,g⟩=true:=by rfl) (hz:zs.contains i=false:=by rfl):Dg P R n ops k zs (.act i order) C s w :=
  let r:=h _ _ rfl (hF.alloc _) (Same.alloc w _)
  XE hi hrun r.1 r.2 hw hz
theorem Vp(b o m:Nat):(⟨b,o,none⟩:Addr).add m=⟨b,o+m,none⟩:=by
  unfold Addr.add;split <;> simp_all
theorem CA{t t':TypeId}{x:Operand}(ht:P.underlying t=some (.interface (P.methodsAt t)))(hx:ρ x=.nilIface)(hy:ρ (.const .nilIface)=.nilIface):(execOp ρ ⟨dst,.binOp .neq t x (.const .nilIface) t',ty,pos,aft,g⟩).run P w=.ok (.value (.bool false)) w:=by
  have h:=run_neq_nil_nil (P:=P) (w:=w) t ht;have hg:(eqGuard .neq t x (.const .nilIface) .nilIface .nilIface).run P w=.ok () w:=by simp[eqGuard]
  simp only[execOp,hx,hy,Sem.run_bind,hg,Result.andThen_ok,h,Sem.run_pure]
theorem E1{t t':TypeId}{x:Operand}{tp:TypeId}{p:Value}(ht:P.underlying t=some (.interface (P.methodsAt t)))(hx:ρ x=.iface tp p)(hy:ρ (.const .nilIface)=.nilIface):(execOp ρ ⟨dst,.binOp .neq t x (.const .nilIface) t',ty,pos,aft,g⟩).run P w=.ok (.value (.bool true)) w:=by
  have h:=run_neq_held_nil (P:=P) (w:=w) t tp p ht;have hg:(eqGuard .neq t x (.const .nilIface) (.iface tp p) .nilIface).run P w=.ok () w:=by simp[eqGuard]
  simp only[execOp,hx,hy,Sem.run_bind,hg,Result.andThen_ok,h,Sem.run_pure]
theorem GN{x y:Operand}{ats:Array TypeId}{k:IntKind}{a b:Int}(hx:ρ x=.int k a)(hy:ρ y=.int k b):(execOp ρ ⟨dst,.call ⟨.builtin .max,#[x,y],ats⟩,ty,pos,aft,g⟩).run P w=.ok (.value (.int k (max a b))) w:=by
  have e:(if b>a then b else a)=max a b:=by rw[Int.max_def];split <;> split <;> omega
  have h:=run_max_int2 (P:=P) w ats ty k k a b;rw[e]at h;simp[execOp,resolve,invoke,builtin,hx,hy,h]
theorem Bl{fn:Fn}{x:Operand}{v:Value}(hx:ρ x=v):(execOp ρ ⟨dst,.makeFunc fn #[] #[x],ty,pos,aft,g⟩).run P w=.ok (.value (.func fn #[] #[v])) w:=Lu Pa (by simp[hx])
theorem L8:∀(l pre:List Value)(cs:Array Value),cs.size=pre.length+l.length->cs.toList.take pre.length=pre->putA cs pre.length l=(pre++l).toArray
  | [], pre, cs, hs, hp => by
    simp only[List.length_nil,Nat.add_zero]at hs;have:cs.toList=pre:=by rw[List.take_of_length_le (by have:=Array.length_toList (xs:=cs);omega)]at hp;exact hp
    simp only[putA,qQ];rw[<-this]
  | v :: l, pre, cs, hs, hp => by
    simp only[kQ]at hs;have hlt:pre.length<(cs.toList.set pre.length v).length:=by have:=Array.length_toList (xs:=cs);rw[List.length_set];omega
    have ih:=L8 l (pre++[v]) (cs.setIfInBounds pre.length v) (by simp;omega) (by
      rw[Array.toList_setIfInBounds,dQ,List.length_singleton,iQ hlt,List.getElem_set_self,List.take_set_of_le (gQ _),hp])
    rw[putA,show pre++v::l=pre++[v]++l by simp,<-ih];simp
theorem Vi{cs:Array Value}{l:List Value}(h:cs.size=l.length):putA cs 0 l=l.toArray:=by
  have:=L8 l [] cs (by simpa using h) Pa;simpa using this
end
def Y(P:Program)(ρ:Operand->Value)(op:Op)(v:Value):Prop:=∀dst ty pos aft g w,(execOp ρ ⟨dst,op,ty,pos,aft,g⟩).run P w=.ok (.value v) w
def YC(C:World->Prop)(P:Program)(ρ:Operand->Value)(op:Op)(v:Value):Prop:=∀dst ty pos aft g w,C w->(execOp ρ ⟨dst,op,ty,pos,aft,g⟩).run P w=.ok (.value v) w
section
variable {P:Program}{ρ:Operand->Value}{x y z:Operand}{t t' e b off m m_ c_ j:Nat}{cs vs:Array Value}{kk:IntKind}{A:Option Addr}
theorem Bc{a:Int}(hx:ρ x=.int kk a):Y P ρ (.move x) (.int kk a):=λ_ _ _ _ _ _=>Tj hx
theorem Yd{a:Bool}(hx:ρ x=.bool a):Y P ρ (.move x) (.bool a):=λ_ _ _ _ _ _=>Tj hx
theorem Ue{a:ByteArray}(hx:ρ x=.string a):Y P ρ (.move x) (.string a):=λ_ _ _ _ _ _=>Tj hx
theorem Od(hx:ρ x=.slice A m_ c_):Y P ρ (.move x) (.slice A m_ c_):=λ_ _ _ _ _ _=>Tj hx
theorem ES{a:Option Addr}(hx:ρ x=.pointer a):Y P ρ (.move x) (.pointer a):=λ_ _ _ _ _ _=>Tj hx
theorem Ct(hx:ρ x=.tuple cs):Y P ρ (.move x) (.tuple cs):=λ_ _ _ _ _ _=>Tj hx
theorem Jq  : Y P ρ (.move x) (ρ x):=λ_ _ _ _ _ _=>Tj rfl
theorem Gd{a:Int}(hx:ρ x=.int kk a):Y P ρ (.assign x) (.int kk a):=λ_ _ _ _ _ _=>Sf hx
theorem Ob{a:Bool}(hx:ρ x=.bool a):Y P ρ (.assign x) (.bool a):=λ_ _ _ _ _ _=>Sf hx
theorem Am{a:ByteArray}(hx:ρ x=.string a):Y P ρ (.assign x) (.string a):=λ_ _ _ _ _ _=>Sf hx
theorem Wj(hx:ρ x=.slice A m_ c_):Y P ρ (.assign x) (.slice A m_ c_):=λ_ _ _ _ _ _=>Sf hx
theorem LS{a:Option Addr}(hx:ρ x=.pointer a):Y P ρ (.assign x) (.pointer a):=λ_ _ _ _ _ _=>Sf hx
theorem GG  : Y P ρ (.assign x) (ρ x):=λ_ _ _ _ _ _=>Sf rfl
theorem Sc{a:Bool}(hc:ρ x=.bool true)(hx:ρ y=.bool a):Y P ρ (.pick x y z) (.bool a):=λ_ _ _ _ _ _=>LG hc hx
theorem Ed{a:Bool}(hc:ρ x=.bool false)(hx:ρ z=.bool a):Y P ρ (.pick x y z) (.bool a):=λ_ _ _ _ _ _=>ZG hc hx
theorem Hw{a:Int}(hx:ρ x=.tuple vs)(hv:vs[j]? = some (.int kk a)):Y P ρ (.extract x j) (.int kk a):=λ_ _ _ _ _ _=>Si hx hv
theorem Jp{a:Bool}(hx:ρ x=.tuple vs)(hv:vs[j]? = some (.bool a)):Y P ρ (.extract x j) (.bool a):=λ_ _ _ _ _ _=>Si hx hv
theorem EF{a:ByteArray}(hx:ρ x=.tuple vs)(hv:vs[j]? = some (.string a)):Y P ρ (.extract x j) (.string a):=λ_ _ _ _ _ _=>Si hx hv
theorem VQ(hx:ρ x=.tuple vs)(hv:vs[j]? = some (.slice A m_ c_)):Y P ρ (.extract x j) (.slice A m_ c_):=λ_ _ _ _ _ _=>Si hx hv
theorem GA(hx:ρ x=.tuple vs)(hv:vs[j]? = some (.agg cs)):Y P ρ (.extract x j) (.agg cs):=λ_ _ _ _ _ _=>Si hx hv
theorem OS{v:Value}(hx:ρ x=.tuple vs)(hv:vs[j]? = some (v)):Y P ρ (.extract x j) (v):=λ_ _ _ _ _ _=>Si hx hv
theorem Ud{o:Nat}(hf:Dd P t j off)(hx:ρ x=.pointer (some ⟨b,o,none⟩)):Y P ρ (.fieldAddr t x j) (.pointer (some ⟨b,o+off,none⟩)):=λ_ _ _ _ _ _=>I0 hf hx
theorem JS{a:Addr}(hx:ρ x=.pointer (some a)):Y P ρ (.nilCheck x) (.pointer (some a)):=λ_ _ _ _ _ _=>C7 hx
theorem Um{a b:Int}(hx:ρ x=.int kk a)(hy:ρ y=.int kk b):Y P ρ (.binOp .lss t x y t') (.bool (decide (a<b))):=λ_ _ _ _ _ _=>SO hx hy
theorem OK{a b:Int}(hx:ρ x=.int kk a)(hy:ρ y=.int kk b):Y P ρ (.binOp .leq t x y t') (.bool (decide (a<=b))):=λ_ _ _ _ _ _=>DJ hx hy
theorem WA{a b:Int}(hx:ρ x=.int kk a)(hy:ρ y=.int kk b):Y P ρ (.binOp .gtr t x y t') (.bool (decide (b<a))):=λ_ _ _ _ _ _=>LO hx hy
theorem L9{a b:Int}(hx:ρ x=.int kk a)(hy:ρ y=.int kk b):Y P ρ (.binOp .geq t x y t') (.bool (decide (b<=a))):=λ_ _ _ _ _ _=>BO hx hy
theorem Z4{a b:Int}(hx:ρ x=.int kk a)(hy:ρ y=.int kk b):Y P ρ (.binOp .eql t x y t') (.bool (decide (a=b))):=λ_ _ _ _ _ _=>Ir hx hy
theorem Ey{a b:Int}(hx:ρ x=.int kk a)(hy:ρ y=.int kk b):Y P ρ (.binOp .neq t x y t') (.bool (decide (a≠b))):=λ_ _ _ _ _ _=>QO hx hy
theorem G5{a b:Str}(hx:ρ x=.string (bs a))(hy:ρ y=.string (bs b)):Y P ρ (.binOp .eql t x y t') (.bool (decide (a=b))):=λ_ _ _ _ _ _=>Z6 hx hy
theorem qQq{a b:Str}(hx:ρ x=.string (bs a))(hy:ρ y=.string (bs b)):Y P ρ (.binOp .neq t x y t') (.bool (decide (a≠b))):=λ_ _ _ _ _ _=>FL hx hy
theorem GS{p:Prop}{_:Decidable p}(hx:ρ x=.bool (decide p)):Y P ρ (.unOp .not t x) (.bool (decide (¬p))):=λ_ _ _ _ _ _=>VK hx
theorem Bi{b:Bool}(hx:ρ x=.bool b):Y P ρ (.unOp .not t x) (.bool (!b)):=λ_ _ _ _ _ _=>EP hx
theorem Bh(ht:P.underlying t=some (.slice e))(hx:ρ x=.slice A m_ c_):Y P ρ (.call ⟨.builtin .len,#[x],#[t]⟩) (.int .i64 m_):=λ_ _ _ _ _ _=>E4 ht hx
theorem D_{a:Str}(ht:P.underlying t=some .string)(hx:ρ x=.string (bs a)):Y P ρ (.call ⟨.builtin .len,#[x],#[t]⟩) (.int .i64 (a.length:Int)):=λ_ _ _ _ _ _=>J0 ht hx
theorem A5{a b:Int}(e:Int)(hx:ρ x=.int .i64 a)(hy:ρ y=.int .i64 b)(h:IntKind.i64.wrap (a+b)=e:=by exact Kn Ca Ca Ca):Y P ρ (.binOp .add t x y t') (.int .i64 e):=λ_ _ _ _ _ _=>Xx hx hy h
theorem Zl{a b:Int}(hx:ρ x=.int .i64 a)(hy:ρ y=.int .i64 b)(h:IntKind.i64.wrap (a+b)=a+b:=by exact Dl Ca Ca):Y P ρ (.binOp .add t x y t') (.int .i64 (a+b)):=λ_ _ _ _ _ _=>Xx hx hy h
theorem RS{a b:Int}(e:Int)(hx:ρ x=.int .i64 a)(hy:ρ y=.int .i64 b)(h:IntKind.i64.wrap (a-b)=e:=by exact Kn Ca Ca Ca):Y P ρ (.binOp .sub t x y t') (.int .i64 e):=λ_ _ _ _ _ _=>G_ hx hy h
theorem OI{a b:Int}(hx:ρ x=.int .i64 a)(hy:ρ y=.int .i64 b)(h:IntKind.i64.wrap (a-b)=a-b:=by exact Dl Ca Ca):Y P ρ (.binOp .sub t x y t') (.int .i64 (a-b)):=λ_ _ _ _ _ _=>G_ hx hy h
end
section
variable {P:Program}{R:Exit->Act->World->Prop}{n:Nat}{k:Kt}{s:Nat->Value}{w w0:World}{ops rest:List Oper}{Ds:List Nat}{bs_:List (Nat × Obj)}
variable {d i:Nat}{ty:TypeId}{pos:String}{aft:Array Edge}{g:Option (Nat × Bool)}{zs:Lt}{C:World->Prop}{order:Ord}{op:Op}{v:Value}{x y:Code}
theorem Da(hy:Y P (ev n s) op v)(h:Og P R n ops k rest (Be s d v) w)(hw:Ya ops n s ⟨some d,op,ty,pos,aft,g⟩=true:=by rfl):Og P R n ops k (⟨some d,op,ty,pos,aft,g⟩::rest) s w:=Oa (hy ..) h hw
theorem Hc(hi:ops[i]? = some ⟨some d,op,ty,pos,aft,g⟩)(hy:Y P (ev n s) op v)(h:Dg P R n ops k zs order C (Be s d v) w)(hw:Ya ops n s ⟨some d,op,ty,pos,aft,g⟩=true:=by rfl):Dg P R n ops k zs (.free i order) C s w:=Tz hi (λw _=>hy _ _ _ _ _ w) (λw _=>hy _ _ _ _ _ w) h hw
theorem Xd(hy:YC (λw'=>w'=w) P (ev n s) op v)(h:Og P R n ops k rest (Be s d v) w)(hw:Ya ops n s ⟨some d,op,ty,pos,aft,g⟩=true:=by rfl):Og P R n ops k (⟨some d,op,ty,pos,aft,g⟩::rest) s w:=Oa (hy _ _ _ _ _ w rfl) h hw
theorem Js(hi:ops[i]? = some ⟨some d,op,ty,pos,aft,g⟩)(hy:YC C P (ev n s) op v)(h:Dg P R n ops k zs order C (Be s d v) w)(hw:Ya ops n s ⟨some d,op,ty,pos,aft,g⟩=true:=by rfl)(hps:zs.ps.contains i=false:=by rfl):Dg P R n ops k zs (.free i order) C s w:=Vb hi (λw hC=>hy _ _ _ _ _ w hC) h hw hps
theorem FR.F(hF:FR w0 Ds bs_ w):∀w',w'=w->FR w0 Ds bs_ w':=λ_ h=>h▸hF
theorem C0{F:World->Prop}(w:World)(h:F w):F w:=h
theorem C1{F G:World->Prop}(w:World)(h:F w/\G w):F w:=h.1
theorem Uc{p:Prop}{_:Decidable p}(hx:ev n s (.tmp d)=.bool (decide p))(hd:Nat.blt d n=true)(ht:p->Cg P R n x k (Be s d (.bool true)) w)(hf:¬p->Cg P R n y k (Be s d (.bool false)) w):Cg P R n (.cond (.tmp d) x y) k s w :=
  LC (by simpa[ev,hd]using hx) (λh=>Le (by simp[ev,Be,hd]) (ht h)) (λh=>Kj (by simp[ev,Be,hd]) (hf h))
theorem Ke{b:Bool}(hx:ev n s (.tmp d)=.bool b)(hd:Nat.blt d n=true)(ht:b=true->Cg P R n x k (Be s d (.bool true)) w)(hf:b=false->Cg P R n y k (Be s d (.bool false)) w):Cg P R n (.cond (.tmp d) x y) k s w :=
  Z9 (by simpa[ev,hd]using hx) (λh=>Le (by simp[ev,Be,hd]) (ht h)) (λh=>Kj (by simp[ev,Be,hd]) (hf h))
variable {ρ:Operand->Value}{q:Operand}{t b off m:Nat}{T:TypeId}{fz:Nat × Nat}{ct:Array Value}
theorem B5{kk:IntKind}{a:Int}(ha:∀w,(isAgg t).run P w=.ok false w)(hx:ρ q=.pointer (some ⟨b,off,none⟩))(hF:∀w,C w->FR w0 Ds bs_ w)(ii:Nat)(hb:bs_[ii]? = some (b,.cells ct T fz))(hv:ct[off]? = some (.int kk a)):YC C P ρ (.load t q) (.int kk a):=λ_ _ _ _ _ w h=>Zc ha hx ((hF w h).cell ii hb hv)
theorem OH{a:Bool}(ha:∀w,(isAgg t).run P w=.ok false w)(hx:ρ q=.pointer (some ⟨b,off,none⟩))(hF:∀w,C w->FR w0 Ds bs_ w)(ii:Nat)(hb:bs_[ii]? = some (b,.cells ct T fz))(hv:ct[off]? = some (.bool a)):YC C P ρ (.load t q) (.bool a):=λ_ _ _ _ _ w h=>Zc ha hx ((hF w h).cell ii hb hv)
theorem Is{a:ByteArray}(ha:∀w,(isAgg t).run P w=.ok false w)(hx:ρ q=.pointer (some ⟨b,off,none⟩))(hF:∀w,C w->FR w0 Ds bs_ w)(ii:Nat)(hb:bs_[ii]? = some (b,.cells ct T fz))(hv:ct[off]? = some (.string a)):YC C P ρ (.load t q) (.string a):=λ_ _ _ _ _ w h=>Zc ha hx ((hF w h).cell ii hb hv)
theorem Bm{A:Option Addr}{m_ c_:Nat}(ha:∀w,(isAgg t).run P w=.ok false w)(hx:ρ q=.pointer (some ⟨b,off,none⟩))(hF:∀w,C w->FR w0 Ds bs_ w)(ii:Nat)(hb:bs_[ii]? = some (b,.cells ct T fz))(hv:ct[off]? = some (.slice A m_ c_)):YC C P ρ (.load t q) (.slice A m_ c_):=λ_ _ _ _ _ w h=>Zc ha hx ((hF w h).cell ii hb hv)
theorem TQ{v:Value}(ha:∀w,(isAgg t).run P w=.ok false w)(hx:ρ q=.pointer (some ⟨b,off,none⟩))(hF:∀w,C w->FR w0 Ds bs_ w)(ii:Nat)(hb:bs_[ii]? = some (b,.cells ct T fz))(hv:ct[off]? = some v):YC C P ρ (.load t q) v:=λ_ _ _ _ _ w h=>Zc ha hx ((hF w h).cell ii hb hv)
theorem Lj{l:List Value}(ha:∀w,(isAgg t).run P w=.ok true w)(hs:∀w,(sizeOf t).run P w=.ok m w)(hx:ρ q=V b)(hF:∀w,C w->FR w0 Ds bs_ w)(ii:Nat)(hb:bs_[ii]? = some (b,.cells l.toArray T fz))(hm:l.length=m):YC C P ρ (.load t q) (.agg l.toArray):=λ_ _ _ _ _ w h=>Fb ha hs hx hm ((hF w h).cellsAll ii hb)
end
inductive AtI {α:Type}:Nat->List α->α->α->List α->Prop
  | z {a a':α} {l:List α}:AtI 0 (a::l) a a' (a'::l)
  | s {i:Nat} {x a a':α} {l l':List α}:AtI i l a a' l'->AtI (i+1) (x::l) a a' (x::l')
theorem AtI.get{α:Type}{i:Nat}{l l':List α}{a a':α}(h:AtI i l a a' l'):l[i]? = some a:=by
  induction h with
  | z=>rfl
  | s _ ih=>simpa using ih
theorem AtI.set{α:Type}{i:Nat}{l l':List α}{a a':α}(h:AtI i l a a' l'):l.set i a'=l':=by
  induction h with
  | z=>rfl
  | s _ ih=>simp[ih]
theorem AtI.lt{α:Type}{i:Nat}{l l':List α}{a a':α}(h:AtI i l a a' l'):i<l.length:=(List.getElem?_eq_some_iff.1 h.get).1
theorem AtI.app{α:Type}{i:Nat}{l l' post:List α}{a a':α}(h:AtI i l a a' l'):AtI i (l++post) a a' (l'++post):=by
  induction h with
  | z=>exact .z
  | s _ ih=>exact .s ih
theorem Y1{l:List Value}{i:Nat}{v:Value}:putA l.toArray i [v]=(l.set i v).toArray:=by simp[putA]
theorem Xi{α:Type}{x y:α}{l:List α}:AtI 0 (x::l) x y (y::l):=.z
theorem W0{α:Type}{a x y:α}{l:List α}:AtI 1 (a::x::l) x y (a::y::l):=.s (.z)
theorem ON{α:Type}{a b x y:α}{l:List α}:AtI 2 (a::b::x::l) x y (a::b::y::l):=.s (.s (.z))
theorem XJ{α:Type}{a b c x y:α}{l:List α}:AtI 3 (a::b::c::x::l) x y (a::b::c::y::l):=.s (.s (.s (.z)))
theorem KR{α:Type}{a b c d x y:α}{l:List α}:AtI 4 (a::b::c::d::x::l) x y (a::b::c::d::y::l):=.s (.s (.s (.s (.z))))
section
variable {P:Program}{R:Exit->Act->World->Prop}{n:Nat}{k:Kt}{s:Nat->Value}{w w0:World}{ops rest:List Oper}{Ds:List Nat}{bs_ bs':List (Nat × Obj)}
variable {d i:Nat}{ty:TypeId}{pos:String}{aft:Array Edge}{g:Option (Nat × Bool)}{zs:Lt}{C:World->Prop}{order:Ord}{x y:Operand}{t b off ii m:Nat}{l l':List Value}{u:Value}{T:TypeId}
theorem Hs(v:Value)(hF:FR w0 Ds bs_ w)(hs:∀w,(sizeOf t).run P w=.ok 1 w)(hx:ev n s x=.pointer (some ⟨b,off,none⟩))(hy:ev n s y=v)(hb:AtI ii bs_ (b,.cells l.toArray T) (b,.cells l'.toArray T) bs')(hc:AtI off l u v l')(h:∀w',FR w0 Ds bs' w'->Same [b] w w'->Og P R n ops k rest s w')(hv:v.cells=#[v]:=by rfl)(ho:one v=true:=by rfl)(hw:Ya ops n s ⟨none,.store t x y,ty,pos,aft,g⟩=true:=by rfl):Og P R n ops k (⟨none,.store t x y,ty,pos,aft,g⟩::rest) s w :=
  Jl ii hF (l:=[v]) hs hx hy hv (by simpa using ho) hb.get (by simpa using Nat.succ_le_of_lt hc.lt) (by rw[Y1,hc.set]) (by rw[hb.set];exact h) hw
theorem Gg(hF:FR w0 Ds bs_ w)(hs:∀w,(sizeOf t).run P w=.ok m w)(hx:ev n s x=V b)(hy:ev n s y=.agg l'.toArray)(hb:AtI ii bs_ (b,.cells l.toArray T) (b,.cells l'.toArray T) bs')(h:∀w',FR w0 Ds bs' w'->Same [b] w w'->Og P R n ops k rest s w')(hm:l'.length=m:=by rfl)(hl:l.length=l'.length:=by rfl)(ho:l'.all one=true:=by rfl)(hw:Ya ops n s ⟨none,.store t x y,ty,pos,aft,g⟩=true:=by rfl):Og P R n ops k (⟨none,.store t x y,ty,pos,aft,g⟩::rest) s w :=
  Jl ii hF (l:=l') (by rw[hm];exact hs) hx hy rfl (List.all_eq_true.1 ho) hb.get (by simp[hl]) (Vi (by simpa using hl)) (by rw[hb.set];exact h) hw
theorem Yo(hi:ops[i]? = some ⟨none,.store t x y,ty,pos,aft,g⟩)(hF:FR w0 Ds bs_ w)(hs:∀w,(sizeOf t).run P w=.ok m w)(hx:ev n s x=V b)(hy:ev n s y=.agg l'.toArray)(hb:AtI ii bs_ (b,.cells l.toArray T) (b,.cells l'.toArray T) bs')(h:∀w',FR w0 Ds bs' w'->Same [b] w w'->C w'/\Dg P R n ops k zs order C s w')(hm:l'.length=m:=by rfl)(hl:l.length=l'.length:=by rfl)(ho:l'.all one=true:=by rfl)(hw:Ya ops n s ⟨none,.store t x y,ty,pos,aft,g⟩=true:=by rfl)(hz:zs.contains i=false:=by rfl):Dg P R n ops k zs (.act i order) C s w :=
  DI hi ii hF (l:=l') (by rw[hm];exact hs) hx hy rfl (List.all_eq_true.1 ho) hb.get (by simp[hl]) (Vi (by simpa using hl)) (by rw[hb.set];exact h) hw hz
theorem PO(v:Value)(hi:ops[i]? = some ⟨none,.store t x y,ty,pos,aft,g⟩)(hF:FR w0 Ds bs_ w)(hs:∀w,(sizeOf t).run P w=.ok 1 w)(hx:ev n s x=.pointer (some ⟨b,off,none⟩))(hy:ev n s y=v)(hb:AtI ii bs_ (b,.cells l.toArray T) (b,.cells l'.toArray T) bs')(hc:AtI off l u v l')(h:∀w',FR w0 Ds bs' w'->Same [b] w w'->Dg P R n ops k zs order (λ_=>True) s w')(hv:v.cells=#[v]:=by rfl)(ho:one v=true:=by rfl)(hw:Ya ops n s ⟨none,.store t x y,ty,pos,aft,g⟩=true:=by rfl)(hz:zs.contains i=true:=by rfl)(hDT:zs.D=(λ_=>True):=by rfl):Dg P R n ops k zs (.act i order) C s w :=
  R3 hi ii hF (l:=[v]) hs hx hy hv (by simpa using ho) hb.get (by simpa using Nat.succ_le_of_lt hc.lt) (by rw[Y1,hc.set]) (by rw[hb.set];exact h) hw hz hDT
theorem G3(hi:ops[i]? = some ⟨none,.store t x y,ty,pos,aft,g⟩)(hF:FR w0 Ds bs_ w)(hs:∀w,(sizeOf t).run P w=.ok m w)(hx:ev n s x=V b)(hy:ev n s y=.agg l'.toArray)(hb:AtI ii bs_ (b,.cells l.toArray T) (b,.cells l'.toArray T) bs')(h:∀w',FR w0 Ds bs' w'->Same [b] w w'->Dg P R n ops k zs order (λ_=>True) s w')(hm:l'.length=m:=by rfl)(hl:l.length=l'.length:=by rfl)(ho:l'.all one=true:=by rfl)(hw:Ya ops n s ⟨none,.store t x y,ty,pos,aft,g⟩=true:=by rfl)(hz:zs.contains i=true:=by rfl)(hDT:zs.D=(λ_=>True):=by rfl):Dg P R n ops k zs (.act i order) C s w :=
  R3 hi ii hF (l:=l') (by rw[hm];exact hs) hx hy rfl (List.all_eq_true.1 ho) hb.get (by simp[hl]) (Vi (by simpa using hl)) (by rw[hb.set];exact h) hw hz hDT
theorem BD(v:Value)(hF:FR w0 Ds bs_ w)(hy:ev n s x=v)(h:∀b w',b=w.heap.size->FR w0 Ds ((b,.cells #[v] t)::bs_) w'->Same [] w w'->Og P R n ops k rest (Be s d (V b)) w')(hv:v.cells=#[v]:=by rfl)(hw:Ya ops n s ⟨some d,.box t x,ty,pos,aft,g⟩=true:=by rfl):Og P R n ops k (⟨some d,.box t x,ty,pos,aft,g⟩::rest) s w:=Qm hF hy hv h hw
theorem Bg{cs:Array Value}(hF:FR w0 Ds bs_ w)(hy:ev n s x=.agg cs)(h:∀b w',b=w.heap.size->FR w0 Ds ((b,.cells cs t)::bs_) w'->Same [] w w'->Og P R n ops k rest (Be s d (V b)) w')(hw:Ya ops n s ⟨some d,.box t x,ty,pos,aft,g⟩=true:=by rfl):Og P R n ops k (⟨some d,.box t x,ty,pos,aft,g⟩::rest) s w:=Qm hF hy rfl h hw
theorem RR(v:Value){z:Value}{ty':TypeId}{pos':String}{aft':Array Edge}(hF:FR w0 Ds bs_ w)(hz:∀w,(zeroValue t).run P w=.ok z w)(hs:∀w,(sizeOf t).run P w=.ok 1 w)(hy:ev n (Be s d (.pointer (some ⟨w.heap.size,0,none⟩))) y=v)(h:∀b w',b=w.heap.size->FR w0 Ds ((b,.cells #[v] t)::bs_) w'->Same [] w w'->Og P R n ops k rest (Be s d (V b)) w')(hzl:z.cells.size=1:=by rfl)(hv:v.cells=#[v]:=by rfl)(ho:one v=true:=by rfl)(hdn:Nat.blt d n=true:=by rfl):Og P R n ops k (⟨some d,.alloc t,ty,pos,aft,none⟩::⟨none,.store t (.tmp d) y,ty',pos',aft',none⟩::rest) s w:=Uy (l:=[v]) hF hz hs hzl hy hv (by simpa using ho) hdn h
theorem Wl{z:Value}{ty':TypeId}{pos':String}{aft':Array Edge}(hF:FR w0 Ds bs_ w)(hz:∀w,(zeroValue t).run P w=.ok z w)(hs:∀w,(sizeOf t).run P w=.ok m w)(hy:ev n (Be s d (.pointer (some ⟨w.heap.size,0,none⟩))) y=.agg l.toArray)(h:∀b w',b=w.heap.size->FR w0 Ds ((b,.cells l.toArray t)::bs_) w'->Same [] w w'->Og P R n ops k rest (Be s d (V b)) w')(hm:l.length=m:=by rfl)(hzl:z.cells.size=l.length:=by rfl)(ho:l.all one=true:=by rfl)(hdn:Nat.blt d n=true:=by rfl):Og P R n ops k (⟨some d,.alloc t,ty,pos,aft,none⟩::⟨none,.store t (.tmp d) y,ty',pos',aft',none⟩::rest) s w:=Uy (l:=l) hF hz (by rw[hm];exact hs) hzl hy rfl (List.all_eq_true.1 ho) hdn h
theorem Nf{id:Nat}(order:Ord)(hF:FR w0 Ds bs_ w)(h:∀w',FR w0 Ds bs_ w'->Dg P R n ops k zs order (λw=>FR w0 Ds bs_ w) s w')(hm:P.follows .mixedOrders=true:=by kernel_rfl)(hs:Region.noSelect ops.toArray=true:=by kernel_rfl)(hB:Kg .any ops.toArray zs true ops.toArray.size order (Array.replicate ops.toArray.size false)=true:=by kernel_rfl):Cg P R n (.region id ops.toArray true) k s w:=C8 zs order hm hF hs hB λw' h1 _=>⟨_,h1,h w' h1⟩
theorem Oh{id:Nat}(zs:Lt)(order:Ord)(hF:FR w0 Ds bs_ w)(h:∀w',FR w0 Ds bs_ w'->Same [] w w'->∃C:World->Prop,C w'/\Dg P R n ops k zs order C s w')(hm:P.follows .mixedOrders=true:=by kernel_rfl)(hs:Region.noSelect ops.toArray=true:=by kernel_rfl)(hB:Kg .any ops.toArray zs true ops.toArray.size order (Array.replicate ops.toArray.size false)=true:=by kernel_rfl):Cg P R n (.region id ops.toArray true) k s w:=C8 zs order hm hF hs hB h
end
def SlB(e m:Nat)(A:Option Addr)(n c:Nat)(xs:List Value)(sb:List (Nat × Obj)):Prop :=
  xs.length=n*m/\((n=0/\c=0/\sb=[]) \/
    ∃g cur,A=some ⟨g,0,none⟩/\sb=[(g,.cells cur e)]/\n<=c/\c<=maxLen/\cur.size=c*m/\cur.toList.take (n*m)=xs)
theorem SlB.nil(e m:Nat):SlB e m none 0 0 [] []:=⟨by simp,.inl ⟨rfl,rfl,rfl⟩⟩
theorem SlB.zero(e m:Nat)(A:Option Addr):SlB e m A 0 0 [] []:=⟨by simp,.inl ⟨rfl,rfl,rfl⟩⟩
theorem SlB.len{e m n c:Nat}{A:Option Addr}{xs:List Value}{sb:List (Nat × Obj)}(h:SlB e m A n c xs sb):xs.length=n*m:=h.1
theorem SlB.cap{e m n c:Nat}{A:Option Addr}{xs:List Value}{sb:List (Nat × Obj)}(h:SlB e m A n c xs sb):n<=c/\c<=maxLen:=by
  rcases h.2 with ⟨rfl,rfl,-⟩|⟨g,cur,-,-,h1,h2,-⟩
  ·exact⟨gQ _,Nat.zero_le _⟩
  exact⟨h1,h2⟩
section
variable {P:Program}{w0 w:World}{Ds:List Nat}{pre post sb bs:List (Nat × Obj)}
theorem FR.memHeap(h:FR w0 Ds bs w){p:Nat × Obj}(hp:p∈bs):w.heap[p.1]? = some p.2:=(h.own p hp).1
theorem SlB.cells{e m n c:Nat}{A:Option Addr}{xs:List Value}(h:SlB e m A n c xs sb)(hF:FR w0 Ds (pre++(sb++post)) w) :
    ∀ad,A=some ad->∀j u,xs[j]? = some u->w.cell? (ad.add j)=some u:=by
  rintro ad rfl j u hu;rcases h.2 with ⟨hn,-⟩|⟨g,cur,hA,rfl,-,-,-,htake⟩
  ·have:=h.1;subst hn;rw[Nat.zero_mul]at this;rw[List.eq_nil_of_length_eq_zero this]at hu;cases hu
  injection hA with hA;subst hA
  have hg:=hF.memHeap (p:=(g,.cells cur e)) Pa;rw[Vp,Nat.zero_add,cell_of_row w g j cur e (0,0) hg];rw[<-htake,List.getElem?_take]at hu;split at hu
  ·simpa using hu
  cases hu
theorem FR.insert{w':World}{o:Obj}(h:FR w0 Ds (pre++(sb++post)) w)(hs:Same [] w w')(hb:w'.heap[w.heap.size]? = some o):FR w0 Ds (pre++([(w.heap.size,o)]++post)) w':=by
  have hlt:∀p∈pre++(sb++post),p.1<w.heap.size:=λp hp=>Qa (h.memHeap hp);refine⟨h.same.trans (hs.mono Pa),λp hp=>?_,?_⟩
  ·simp only[mQ, pQ]at hp
   rcases hp with hp|rfl|hp
   ·have h1 := h.own p (by simp[hp])
    exact⟨(hs.block p.1 (Qa h1.1) Pa).trans h1.1,h1.2⟩
   ·exact⟨hb,.inl h.same.size⟩
   have h1 := h.own p (by simp[hp]);exact⟨(hs.block p.1 (Qa h1.1) Pa).trans h1.1,h1.2⟩
  have hd := h.desc;rw[List.pairwise_append]at hd ⊢;obtain⟨h1,h2,h3⟩:=hd;refine⟨h1,?_,?_⟩
  ·rw[List.pairwise_append]at h2 ⊢
   refine⟨by simp,h2.2.1,?_⟩;intro p hp q hq;simp only[pQ]at hp;subst hp;have:=hlt q (by simp[hq]);show q.1≠w.heap.size;omega
  intro p hp q hq;simp only[mQ,pQ]at hq;rcases hq with rfl|hq
  ·have := hlt p (by simp[hp])
   show w.heap.size≠p.1;omega
  exact h3 p hp q (by simp[hq])
theorem FR.changeMid{w':World}{g:Nat}{o o':Obj}(h:FR w0 Ds (pre++([(g,o)]++post)) w)(hs:Same [g] w w')(hn:w'.heap[g]? = some o'):FR w0 Ds (pre++([(g,o')]++post)) w':=by
  have hi:(pre++([(g,o)]++post))[pre.length]? = some (g,o):=by simp
  have:=h.change pre.length hi hs hn;simpa[List.set_append]using this
theorem Wo{t ty e m bytes:Nat}{i:TypeInfo}{z:Value}{A A2:Option Addr}{n c k c2:Nat}{xs news:List Value}
    (ht:P.underlying t=some (.slice e)) (hi:P.info? e=some i) (hz:i.zero=some z) (hsize:i.size=m) (hby:i.bytes=bytes) (hzs:z.cells.size=m)
    (hF:FR w0 Ds (pre++(sb++post)) w) (hS:SlB e m A n c xs sb)
    (hl:news.length=k*m) (hnews:k≠0->∃a,A2=some a/\∀j u,news[j]? = some u->w.cell? (a.add j)=some u) (h1:∀u∈news,u.oneCell'=true)
    (h63:n+k<=maxLen) (hbytes:(n+k)*bytes<=140737488355328) :
    ∃A' c' sb' w', (Builtin.append_ #[t, t] ty #[.slice A n c, .slice A2 k c2]).run P w = .ok (.slice A' (n + k) c') w' /\ SlB e m A' (n + k) c' (xs ++ news) sb' /\ FR w0 Ds (pre ++ (sb' ++ post)) w' /\
      Same (sb.map (·.1)) w w'/\(∀p∈sb',p.1∈sb.map (·.1)\/w.heap.size<=p.1):=by
  subst hsize;subst hby;by_cases hk:k=0
  ·subst hk
   have hn:news=[]:=List.eq_nil_of_length_eq_zero (by simpa using hl);subst hn;refine⟨A,c,sb,w,?_,by simpa using hS,hF,Same.refl _ _,λp hp=>.inl (List.mem_map_of_mem hp)⟩;have hnc:=hS.cap.1;have hf:(Builtin.firstCells i.size 0 (.slice A2 0 c2)).run P w=.ok #[] w:=by
     cases A2 <;> simp[Builtin.firstCells,loadCells,loadCellsFrom]
   cases A <;> simp[Builtin.append_,run_underlying ht,sizeOf,typeInfo,hi,Builtin.lenOf,hnc,hf,storeCells]
  obtain⟨a,rfl,hnw⟩:=hnews hk;clear hnews;have hlen:(xs++news).length=(n+k)*i.size:=by rw[dQ,hS.1,hl,Nat.add_mul]
  simp only[maxLen]at h63;have grown:∀(old:Nat),old<n+k ->
      SlB e i.size (some ⟨w.heap.size,0,none⟩) (n+k) (grownCap w (n+k) old e) (xs++news) [(w.heap.size,.cells (xs.toArray++news.toArray++Builtin.zeroCells z.cells (grownCap w (n+k) old e-(n+k))) e)] /\
      FR w0 Ds (pre++([(w.heap.size,.cells (xs.toArray++news.toArray++Builtin.zeroCells z.cells (grownCap w (n+k) old e-(n+k))) e)]++post)) (w.drew.alloc (.cells (xs.toArray++news.toArray++Builtin.zeroCells z.cells (grownCap w (n+k) old e-(n+k))) e)) /\
      Same (sb.map (·.1)) w (w.drew.alloc (.cells (xs.toArray++news.toArray++Builtin.zeroCells z.cells (grownCap w (n+k) old e-(n+k))) e)):=by
    intro old ho;have hge:=grownCap_ge w (n+k) old e;have hcm:grownCap w (n+k) old e<=maxLen:=grownCap_le_maxLen w (n+k) old e (by simp only[maxLen];omega);have hsm:Same [] w (w.drew.alloc (.cells (xs.toArray++news.toArray++Builtin.zeroCells z.cells (grownCap w (n+k) old e-(n+k))) e)):=(Same.drew w).trans (Same.alloc w.drew _);refine⟨⟨hlen,.inr ⟨w.heap.size,_,O,O,hge,hcm,?_,?_⟩⟩,hF.insert hsm (heap_alloc_new w.drew _),hsm.mono Pa⟩
    ·simp only[Array.size_append, List.size_toArray, size_zeroCells, hzs, hS.1, hl, <- Nat.add_mul]
     congr 1
     omega
    simp only[Array.toList_append, sQ];rw[<-sQ,<-hlen];exact List.take_left
  rcases hS.2 with ⟨rfl,rfl,rfl⟩|⟨g,cur,rfl,rfl,hnc,hcm,hcs,htake⟩
  ·have hx : xs = [] := List.eq_nil_of_length_eq_zero (by simpa using hS.1)
   subst hx;have hgr:=grown 0 Ca;cases A with
   | none =>
     have hr:=run_append_nil (P:=P) w t ty e i z ht hi hz a k c2 news hl hnw Ca Ca (by have hb:=hbytes;simp only[Nat.zero_add]at hb;omega);simp only[Nat.zero_add,List.nil_append,Array.empty_append]at hgr ⊢;exact⟨_,_,_,_,hr,hgr.1,hgr.2.1,hgr.2.2,λp hp=>.inr (by simp only[pQ]at hp;subst hp;exact gQ _)⟩
   | some a0 =>
     have hr:=run_append_grow (P:=P) w t ty e i z ht hi hz a0 0 0 [] Pa (λj u hu=>by cases hu) a k c2 news hl hnw Ca Ca (growslice_fits Ca hbytes);exact⟨_,_,_,_,hr,hgr.1,hgr.2.1,hgr.2.2,λp hp=>.inr (by simp only[pQ]at hp;subst hp;exact gQ _)⟩
  have hg : w.heap[g]? = some (.cells cur e) := hF.memHeap (p := (g, .cells cur e)) Pa;by_cases hroom:n+k<=c
  ·have hfit : n*i.size + news.length <= cur.size := by rw[hl, hcs, <- Nat.add_mul];exact Nat.mul_le_mul_right _ hroom
   have hr:=run_append_room (P:=P) w t ty e i ht hi g n c cur hg a k c2 news hl hnw h1 hroom hfit;have hsm:Same [g] w (w.setRow g (cur.toList.take (n*i.size)++news++cur.toList.drop (n*i.size+news.length)).toArray) :=
     ⟨rfl,rfl,rfl,by simp[World.setRow],λb _ hb=>setRow_other w g b _ (by simpa using hb)⟩
   refine⟨_,_,[(g,.cells (cur.toList.take (n*i.size)++news++cur.toList.drop (n*i.size+news.length)).toArray e)],_,hr,⟨hlen,.inr ⟨g,_,O,O,hroom,hcm,?_,?_⟩⟩,hF.changeMid hsm (setRow_heap w g cur _ e _ hg),by simpa using hsm,λp hp=>.inl (by simp at hp ⊢;exact congrArg Prod.fst hp)⟩
   ·simp only[List.size_toArray, dQ, List.length_take, List.length_drop, Array.length_toList]
    omega
   rw[htake, <- hlen];exact List.take_left
  have holds : ∀j u, xs[j]? = some u -> w.cell? ((⟨g, 0, none⟩ : Addr).add j) = some u := hS.cells hF _ rfl;have hr:=run_append_grow (P:=P) w t ty e i z ht hi hz ⟨g,0,none⟩ n c xs hS.1 holds a k c2 news hl hnw Ca Ca (growslice_fits Ca hbytes);have hgr:=grown c Ca;exact⟨_,_,_,_,hr,hgr.1,hgr.2.1,hgr.2.2,λp hp=>.inr (by simp only[pQ]at hp;subst hp;exact gQ _)⟩
end
def Soft(w:World)(x:Nat):Prop:=∃cs T,w.heap[x]? = some (.cells cs T (0,0))
def PN(w0:World)(ids:List Nat)(w:World)(x:Nat):Prop:=w0.heap.size<=x/\x<w.heap.size/\x∉ids/\Soft w x
def RX(w0:World)(ids:List Nat)(w:World)(ds:List D)(cs:List Value):Prop:=RepL (PN w0 ids w) w ds cs
def Btw(w w':World)(x:Nat):Prop:=w.heap.size<=x/\x<w'.heap.size/\Soft w' x
section
variable {w0 w w':World}{ids ids' E:List Nat}{ds es:List D}{cs ct:List Value}
theorem RX.nil:RX w0 ids w [] []:=RepL.nil_mk
theorem RX.step(h:RX w0 ids w ds cs)(hs:Same E w w')(he:∀b∈E,b∈ids)(hi:∀x∈ids',x∈ids\/w.heap.size<=x):RX w0 ids' w' ds cs:=by
  have h1:RepL (PN w0 ids w) w' ds cs:=RepL.same h hs (λb hb hn=>hn.2.2.1 (he b hb));refine h1.weaken λb hb _=>⟨hb.1,Nat.lt_of_lt_of_le hb.2.1 hs.size,λhm=>?_,?_⟩
  ·rcases hi b hm with h2|h2
   ·exact hb.2.2.1 h2
   have:=hb.2.1;omega
  obtain⟨cs, T, hh⟩ := hb.2.2.2;exact⟨cs,T,(hs.block b hb.2.1 (λhm=>hb.2.2.1 (he b hm))).trans hh⟩
theorem RX.ext(h:RX w0 ids w ds cs)(hs:Same [] w w'):RX w0 ids w' ds cs:=h.step hs Pa (λx hx=>.inl hx)
theorem RX.store(h:RX w0 ids w ds cs)(hs:Same E w w')(he:∀b∈E,b∈ids):RX w0 ids w' ds cs:=h.step hs he (λ_ hx=>.inl hx)
theorem RX.alloc{b:Nat}(h:RX w0 ids w ds cs)(hs:Same [] w w')(hb:b=w.heap.size):RX w0 (b::ids) w' ds cs :=
  h.step hs Pa (λx hx=>by rcases oQ.1 hx with rfl|hx;exact .inr Ca;exact .inl hx)
theorem RX.sub(h:RX w0 ids w ds cs)(hi:∀x∈ids',x∈ids):RX w0 ids' w ds cs:=h.step (Same.refl [] w) Pa (λx hx=>.inl (hi x hx))
theorem RX.append(h:RX w0 ids w ds cs)(k:RX w0 ids w es ct):RX w0 ids w (ds++es) (cs++ct):=RepL.append h k
theorem RX.one{d:D}(h:Rep (PN w0 ids w) w d cs):RX w0 ids w [d] cs:=by
  have:=RepL.cons_mk h RepL.nil_mk;rw[qQ]at this;exact this
theorem RX.rep{d:D}(h:RX w0 ids w [d] cs):Rep (PN w0 ids w) w d cs:=by
  obtain⟨c1,c2,rfl,h1,h2⟩:=RepL.cons_inv h;obtain rfl:=RepL.nil_inv h2;rw[qQ];exact h1
theorem RX.made{d:D}(hw:w0.heap.size<=w.heap.size)(hi:∀x∈ids,x<w.heap.size)(h:Rep (Btw w w') w' d cs):RX w0 ids w' [d] cs :=
  .one (h.weaken λb hb _=>⟨fQ hw hb.1,hb.2.1,λhm=>by have:=hi b hm;have:=hb.1;omega,hb.2.2⟩)
theorem RX.doneL(h:RX w0 ids w ds cs):RepL (Btw w0 w) w ds cs:=RepL.weaken (λ_ hb _=>⟨hb.1,hb.2.1,hb.2.2.2⟩) h
theorem RX.done{d:D}(h:RX w0 ids w [d] cs):Rep (Btw w0 w) w d cs:=h.rep.weaken λ_ hb _=>⟨hb.1,hb.2.1,hb.2.2.2⟩
theorem RX.plain(h:∀S,RepL S w ds cs):RX w0 ids w ds cs:=h _
theorem Btw.mono{w1:World}(hw:w0.heap.size<=w1.heap.size){x:Nat}(h:Btw w1 w x):Btw w0 w x:=⟨fQ hw h.1,h.2⟩
theorem Btw.ext{x:Nat}(h:Btw w0 w x)(hs:Same [] w w'):Btw w0 w' x:=⟨h.1,Nat.lt_of_lt_of_le h.2.1 hs.size,by obtain⟨cs,T,hh⟩:=h.2.2;exact⟨cs,T,(hs.block x h.2.1 Pa).trans hh⟩⟩
theorem SlB.repOf{e m n c:Nat}{A:Option Addr}{xs:List Value}{sb:List (Nat × Obj)}{S:Nat->Prop}(h:SlB e m A n c xs sb)(hb:∀p∈sb,w.heap[p.1]? = some p.2/\S p.1)(hr:RepL S w ds xs)(hn:ds.length=n) :
    Rep S w (.slice ds) [.slice A n c]:=by
  refine Rep.slice_mk hn.symm h.cap.1 h.cap.2 λhne=>?_;rcases h.2 with ⟨rfl,-⟩|⟨g,cur,rfl,rfl,h1,h2,h3,h4⟩
  ·exact absurd (List.eq_nil_of_length_eq_zero hn) hne
  have hg := hb (g, .cells cur e) Pa;refine⟨_,O,xs,λi hi=>⟨?_,hg.2⟩,hr⟩;rw[Vp,Nat.zero_add,cell_of_row w g i cur e (0,0) hg.1];have hx:xs[i]? = some xs[i]:=List.getElem?_eq_getElem hi;rw[<-hx]
  conv=>rhs;rw[<-h4]
  rw[List.getElem?_take,if_pos (by have:=h.1;omega)];simp
theorem SlB.rep{e m n c:Nat}{A:Option Addr}{xs:List Value}{pre post sb:List (Nat × Obj)}(h:SlB e m A n c xs sb)(hF:FR w0 [] (pre++(sb++post)) w)(hr:RX w0 ids w ds xs)(hn:ds.length=n) :
    Rep (Btw w0 w) w (.slice ds) [.slice A n c]:=by
  refine h.repOf (λp hp=>?_) hr.doneL hn;have h1:=hF.own p (by simp[hp]);have h2:∃cur,p=(p.1,.cells cur e):=by
    rcases h.2 with ⟨-,-,rfl⟩|⟨g,cur,-,rfl,-⟩
    ·cases hp
    simp only[pQ]at hp;subst hp;exact⟨cur,rfl⟩
  obtain⟨cur,h2⟩:=h2;refine⟨h1.1,?_,Qa h1.1,?_⟩
  ·rcases h1.2 with h3|h3
   ·exact h3
   cases h3
  rw[h2]at h1;exact⟨cur,e,h1.1⟩
theorem FR.addseg{Ds:List Nat}{bs sb:List (Nat × Obj)}(h:FR w0 Ds bs w)(hb:∀p∈sb,w.heap[p.1]? = some p.2/\w0.heap.size<=p.1/\∀q∈bs,q.1≠p.1)(hd:sb.Pairwise (λp q=>q.1≠p.1)):FR w0 Ds (bs++(sb++[])) w:=by
  rw[qQ];refine⟨h.same,λp hp=>?_,?_⟩
  ·rcases mQ.1 hp with hp|hp
   ·exact h.own p hp
   exact⟨(hb p hp).1,.inl (hb p hp).2.1⟩
  refine List.pairwise_append.2 ⟨h.desc, hd, λp hp q hq => ?_⟩;exact λe=>(hb q hq).2.2 p hp e.symm
theorem FR.extseg{w':World}{bs sb:List (Nat × Obj)}(h:FR w0 [] bs w)(hs:Same [] w w')(hb:∀p∈sb,w'.heap[p.1]? = some p.2/\w.heap.size<=p.1)(hd:sb.Pairwise (λp q=>q.1≠p.1)):FR w0 [] (bs++(sb++[])) w' :=
  (h.ext hs).addseg (λp hp=>⟨(hb p hp).1,fQ h.same.size (hb p hp).2,λq hq=>by have:=Qa (h.own q hq).1;have:=(hb p hp).2;omega⟩) hd
def NS(S:Nat->Prop)(w0:World)(b:Nat):Prop:=S b/\b<w0.heap.size
theorem Rep.old{S:Nat->Prop}{d:D}{cs:List Value}(h:Rep S w0 d cs):Rep (NS S w0) w0 d cs:=h.weaken λ_ h1 h2=>⟨h1,h2⟩
theorem SlB.pw{e m n c:Nat}{A:Option Addr}{xs:List Value}{sb:List (Nat × Obj)}(h:SlB e m A n c xs sb):sb.Pairwise (λp q=>q.1≠p.1):=by
  rcases h.2 with ⟨-,-,rfl⟩|⟨g,cur,-,rfl,-⟩ <;> simp
end
section
variable {P:Program}{R:Exit->Act->World->Prop}{n:Nat}{kt:Kt}{s:Nat->Value}{w:World}{ops rest:List Oper}
variable {d:Nat}{ty:TypeId}{pos:String}{aft:Array Edge}{g:Option (Nat × Bool)}
variable {w0:World}{Ds:List Nat}{sb:List (Nat × Obj)}
theorem Ew{ρ:Operand->Value}{dst:Option Nat}{x y:Operand}{t:TypeId}{u v:Value}{r:Value}{w':World}(hx:ρ x=u)(hy:ρ y=v)(h:(Builtin.append_ #[t,t] ty #[u,v]).run P w=.ok r w') :
    (execOp ρ ⟨dst,.call ⟨.builtin .append,#[x,y],#[t,t]⟩,ty,pos,aft,g⟩).run P w=.ok (.value r) w':=by
  simp[execOp,resolve,invoke,builtin,hx,hy,h]
structure Elems (P:Program) (t e m bytes:Nat):Prop where
  ht:P.underlying t=some (.slice e)
  info:∃(i:TypeInfo)(z:Value),P.info? e=some i/\i.zero=some z/\i.size=m/\i.bytes=bytes/\z.cells.size=m
theorem Elems.of{t e m bytes:Nat}(z:Value)(ht:P.underlying t=some (.slice e))(hi:(P.info? e).map (λi=>(i.zero,i.size,i.bytes))=some (some z,m,bytes))(hz:z.cells.size=m):Elems P t e m bytes:=by
  refine⟨ht,?_⟩;cases h:P.info? e with
  | none=>rw[h]at hi;cases hi
  | some i =>
    rw[h]at hi;simp only[Option.map_some,Option.some.injEq,Prod.mk.injEq]at hi;exact⟨i,z,O,hi.1,hi.2.1,hi.2.2,hz⟩
theorem Yp(pre post:List (Nat × Obj)){x y:Operand}{t e m bytes:Nat}{A A2:Option Addr}{len c k c2:Nat}{xs news:List Value}(hE:Elems P t e m bytes)
    (hF:FR w0 Ds (pre++(sb++post)) w) (hS:SlB e m A len c xs sb) (hx:ev n s x=.slice A len c) (hy:ev n s y=.slice A2 k c2)
    (hl:news.length=k*m) (hnews:k≠0->∃a,A2=some a/\∀j u,news[j]? = some u->w.cell? (a.add j)=some u) (h1:∀u∈news,u.oneCell'=true)
    (h63:len+k<=maxLen) {len':Nat} {ys:List Value} (hlen:len+k=len') (hys:xs++news=ys) (hbytes:(len+k)*bytes<=140737488355328)
    (h:∀A' c' sb' w',SlB e m A' len' c' ys sb'->FR w0 Ds (pre++(sb'++post)) w'->Same (sb.map (·.1)) w w'->(∀p∈sb',p.1∈sb.map (·.1)\/w.heap.size<=p.1)->Og P R n ops kt rest (Be s d (.slice A' len' c')) w')
    (hw:Ya ops n s ⟨some d,.call ⟨.builtin .append,#[x,y],#[t,t]⟩,ty,pos,aft,g⟩=true:=by rfl):Og P R n ops kt (⟨some d,.call ⟨.builtin .append,#[x,y],#[t,t]⟩,ty,pos,aft,g⟩::rest) s w:=by
  subst hlen hys;obtain⟨i,z,hi,hz,h2,h3,h4⟩:=hE.info;obtain⟨A',c',sb',w',hr,hS',hF',hs,hn⟩:=Wo (ty:=ty) (c2:=c2) hE.ht hi hz h2 h3 h4 hF hS hl hnews h1 h63 hbytes;exact Oa (Ew hx hy hr) (h A' c' sb' w' hS' hF' hs hn) hw
theorem DD(pre post:List (Nat × Obj)){C:World->Prop}{order:Ord}{zs:Lt}{i:Nat}{x y:Operand}{t e m bytes:Nat}{A A2:Option Addr}{len c k c2:Nat}{xs news:List Value}
    (hi:ops[i]? = some ⟨some d,.call ⟨.builtin .append,#[x,y],#[t,t]⟩,ty,pos,aft,g⟩) (hE:Elems P t e m bytes)
    (hF:FR w0 Ds (pre++(sb++post)) w) (hS:SlB e m A len c xs sb) (hx:ev n s x=.slice A len c) (hy:ev n s y=.slice A2 k c2)
    (hl:news.length=k*m) (hnews:k≠0->∃a,A2=some a/\∀j u,news[j]? = some u->w.cell? (a.add j)=some u) (h1:∀u∈news,u.oneCell'=true)
    (h63:len+k<=maxLen) {len':Nat} {ys:List Value} (hlen:len+k=len') (hys:xs++news=ys) (hbytes:(len+k)*bytes<=140737488355328)
    (h:∀A' c' sb' w',SlB e m A' len' c' ys sb'->FR w0 Ds (pre++(sb'++post)) w'->Same (sb.map (·.1)) w w'->(∀p∈sb',p.1∈sb.map (·.1)\/w.heap.size<=p.1)->C w'/\Dg P R n ops kt zs order C (Be s d (.slice A' len' c')) w')
    (hw:Ya ops n s ⟨some d,.call ⟨.builtin .append,#[x,y],#[t,t]⟩,ty,pos,aft,g⟩=true:=by rfl) (hzz:zs.contains i=false:=by rfl):Dg P R n ops kt zs (.act i order) C s w:=by
  subst hlen hys;obtain⟨ii,z,hi',hz,h2,h3,h4⟩:=hE.info;obtain⟨A',c',sb',w',hr,hS',hF',hs,hn⟩:=Wo (ty:=ty) (c2:=c2) hE.ht hi' hz h2 h3 h4 hF hS hl hnews h1 h63 hbytes;have r:=h A' c' sb' w' hS' hF' hs hn;exact XE hi (Ew hx hy hr) r.1 r.2 hw hzz
theorem HM{v:Value}(h:one v=true):v.oneCell'=true:=by cases v <;> first|rfl|cases h
theorem S0{l:List Value}(h:∀v∈l,one v=true):∀v∈l,v.oneCell'=true:=λv hv=>HM (h v hv)
theorem Mh{a:Addr}{l:List Value}(h:∀j (hj:j<l.length),w.cell? (a.add j)=some l[j]):∀j u,l[j]? = some u->w.cell? (a.add j)=some u:=by
  intro j u hu;obtain⟨hj,rfl⟩:=List.getElem?_eq_some_iff.1 hu;exact h j hj
theorem Jo{ρ:Operand->Value}{dst:Option Nat}{t t' e:Nat}{x y:Operand}{A:Option Addr}{len c:Nat}(ht:P.underlying t=some (.slice e))(hx:ρ x=.slice A len c)(hy:ρ y=aQ) :
    (execOp ρ ⟨dst,.binOp .eql t x y t',ty,pos,aft,g⟩).run P w=.ok (.value (.bool A.isNone)) w:=by
  have h:=Lib.run_eql_slice_nil (P:=P) w t e A len c 0 0 ht;have hg:(eqGuard .eql t x y (.slice A len c) (aQ)).run P w=.ok () w:=by unfold eqGuard;split <;> simp
  simp only[execOp,hx,hy,Sem.run_bind,hg,Result.andThen_ok,h,Sem.run_pure]
theorem Sj{ρ:Operand->Value}{dst:Option Nat}{t e size:Nat}(ht:P.underlying t=some (.slice e))(hs:∀w,(sizeOf e).run P w=.ok size w) :
    (execOp ρ ⟨dst,.buildSlice t 0 #[],ty,pos,aft,g⟩).run P w=.ok (.value (.slice (some ⟨w.heap.size,0,none⟩) 0 0)) (w.alloc (.cells #[] e)):=by
  have hu:∀w,(underlying t).run P w=.ok (.slice e) w:=run_underlying ht;have h0:∀v:Value,Array.map (λ_=>v) (Array.range 0)=#[]:=λ_=>by simp[Array.range]
  simp[execOp,Instr.buildSlice,hu,hs,Instr.fill,newRow,newObj,Sem.run,h0]
theorem L4:∀(l pre mid post:List Value),mid.length=l.length->putA (pre++(mid++post)).toArray pre.length l=(pre++(l++post)).toArray
  | [], pre, mid, post, h => by
    have:mid=[]:=List.eq_nil_of_length_eq_zero (by simpa using h);subst this;rfl
  | v :: l, pre, mid, post, h => by
    cases mid with
    | nil=>simp at h
    | cons u mid =>
      have ih:=L4 l (pre++[v]) mid post (by simpa using h);rw[dQ,List.length_singleton]at ih;rw[putA];have e:(pre++(u::mid++post)).toArray.setIfInBounds pre.length v=(pre++[v]++(mid++post)).toArray:=by
        simp
      rw[e,ih];simp
theorem P1(pre post:List (Nat × Obj)){x y:Operand}{t e m len c j:Nat}{A:Option Addr}{ad:Addr}{xs new:List Value}{v:Value}{dst:Option Nat}(hF:FR w0 Ds (pre++(sb++post)) w)(hS:SlB e m A len c xs sb)(hA:A=some ad)(hj:j<len)
    (hs:∀w,(sizeOf t).run P w=.ok m w) (hx:ev n s x=.pointer (some (ad.add (j*m)))) (hy:ev n s y=v) (hl:v.cells=new.toArray) (hm:new.length=m) (hv:∀v∈new,one v=true) :
    ∃sb' w',(execOp (ev n s) ⟨dst,.store t x y,ty,pos,aft,g⟩).run P w=.ok .skip w'/\SlB e m A len c (xs.take (j*m)++(new++xs.drop (j*m+m))) sb'/\FR w0 Ds (pre++(sb'++post)) w'/\Same (sb.map (·.1)) w w'/\sb'.map (·.1)=sb.map (·.1):=by
  subst hA;have hmul:(j+1)*m<=len*m:=Nat.mul_le_mul_right m hj;rw[Nat.add_mul,Nat.one_mul]at hmul;have hxl:=hS.1;rcases hS.2 with ⟨rfl,-⟩|⟨b,cur,hA,rfl,h1,h2,h3,h4⟩
  ·omega
  injection hA with hA
  subst hA;have hcl:len*m<=c*m:=Nat.mul_le_mul_right m h1;have hi:(pre++([(b,Obj.cells cur e)]++post))[pre.length]? = some (b,.cells cur e):=by simp
  have hc:cur=(xs.take (j*m)++(((xs.drop (j*m)).take m)++(xs.drop (j*m+m)++cur.toList.drop (len*m)))).toArray:=by
    apply Array.toList_inj.1;show cur.toList=_;have e1:xs=xs.take (j*m)++((xs.drop (j*m)).take m++xs.drop (j*m+m)):=by
      rw[<-List.drop_drop,List.take_append_drop,List.take_append_drop]
    have e2:cur.toList=xs++cur.toList.drop (len*m):=by rw[<-h4,List.take_append_drop]
    conv=>lhs;rw[e2,e1]
    simp[sQ]
  have hput:putA cur (0+j*m) new=(xs.take (j*m)++(new++(xs.drop (j*m+m)++cur.toList.drop (len*m)))).toArray:=by
    conv=>lhs;rw[hc]
    have:=L4 new (xs.take (j*m)) ((xs.drop (j*m)).take m) (xs.drop (j*m+m)++cur.toList.drop (len*m)) (by rw[List.length_take,List.length_drop];omega);rw[List.length_take,Nat.min_eq_left Ca]at this;rw[Nat.zero_add];exact this
  obtain⟨w',hr,hF',hsm⟩:=Xq (P:=P) (n:=n) (s:=s) (dst:=dst) (ty:=ty) (pos:=pos) (aft:=aft) (g:=g) (ii:=pre.length) (off:=0+j*m) (l:=new) (T:=e) hF (by rw[hm];exact hs) (by rw[hx,Vp]) hy hl hv hi (by rw[hm,h3];omega) hput;refine⟨[(b,.cells (xs.take (j*m)++(new++(xs.drop (j*m+m)++cur.toList.drop (len*m)))).toArray e)],w',hr,⟨?_,.inr ⟨b,_,O,O,h1,h2,?_,?_⟩⟩,?_,by simpa using hsm,O⟩
  ·simp only[dQ,List.length_take,List.length_drop];omega
  ·have hcs : cur.toList.length = c*m := by rw[Array.length_toList, h3]
   simp only[List.size_toArray,dQ,List.length_take,List.length_drop];omega
  ·rw[show xs.take (j*m) ++ (new ++ (xs.drop (j*m + m) ++ cur.toList.drop (len*m))) = (xs.take (j*m) ++ (new ++ xs.drop (j*m + m))) ++ cur.toList.drop (len*m) by simp[sQ]]
   have:(xs.take (j*m)++(new++xs.drop (j*m+m))).length=len*m:=by simp only[dQ,List.length_take,List.length_drop];omega
   rw[<-this];exact List.take_left
  simpa[List.set_append]using hF'
theorem SlB.elem{e m len c:Nat}{A:Option Addr}{xs:List Value}{pre post:List (Nat × Obj)}(hS:SlB e m A len c xs sb)(hF:FR w0 Ds (pre++(sb++post)) w){j:Nat}(hj:j<len) :
    ∃ad,A=some ad/\∀i (hi:i<((xs.drop (j*m)).take m).length),w.cell? ((ad.add (j*m)).add i)=some ((xs.drop (j*m)).take m)[i]:=by
  have hA:∃ad,A=some ad:=by
    rcases hS.2 with ⟨rfl,-⟩|⟨b,cur,hA,-⟩
    ·omega
    exact⟨_,hA⟩
  obtain⟨ad,rfl⟩:=hA;refine⟨ad,O,λi hi=>?_⟩;rw[Uo];refine hS.cells hF ad O (j*m+i) _ ?_;rw[List.getElem_take,List.getElem_drop];exact List.getElem?_eq_getElem _
theorem MG{C:World->Prop}{order:Ord}{zs:Lt}{i:Nat}{op:Op}{w':World}(hi:ops[i]? = some ⟨none,op,ty,pos,aft,g⟩)(hrun:(execOp (ev n s) ⟨none,op,ty,pos,aft,g⟩).run P w=.ok .skip w')(h:Dg P R n ops kt zs order (λ_=>True) s w')
    (hw:Ya ops n s ⟨none,op,ty,pos,aft,g⟩=true:=by rfl) (hz:zs.contains i=true:=by rfl) (hDT:zs.D=(λ_=>True):=by rfl):Dg P R n ops kt zs (.act i order) C s w:=J8 hrun h hi hw hz hDT
theorem SlB.elemMid{e m len c:Nat}{A:Option Addr}{pr mid po:List Value}{pre post:List (Nat × Obj)}(hS:SlB e m A len c (pr++(mid++po)) sb)(hF:FR w0 Ds (pre++(sb++post)) w){j:Nat}(hp:pr.length=j*m)(hm:mid.length=m)(hj:j<len) :
    ∃ad,A=some ad/\∀i (hi:i<mid.length),w.cell? ((ad.add (j*m)).add i)=some mid[i]:=by
  obtain⟨ad,hA,hc⟩:=hS.elem hF hj;refine⟨ad,hA,λi hi=>?_⟩;have e:((pr++(mid++po)).drop (j*m)).take m=mid:=by rw[<-hp,List.drop_left,<-hm,List.take_left]
  have h1:=hc i (by rw[e];exact hi);rw[h1]
  congr 1
  simp only[e]
theorem N6(pre post:List (Nat × Obj)){x y:Operand}{t e m len c j:Nat}{A:Option Addr}{ad:Addr}{pr mid po new:List Value}{v:Value}{dst:Option Nat}(hF:FR w0 Ds (pre++(sb++post)) w)(hS:SlB e m A len c (pr++(mid++po)) sb)(hp:pr.length=j*m)(hmm:mid.length=m)(hA:A=some ad)(hj:j<len)
    (hs:∀w,(sizeOf t).run P w=.ok m w) (hx:ev n s x=.pointer (some (ad.add (j*m)))) (hy:ev n s y=v) (hl:v.cells=new.toArray) (hm:new.length=m) (hv:∀v∈new,one v=true) :
    ∃sb' w',(execOp (ev n s) ⟨dst,.store t x y,ty,pos,aft,g⟩).run P w=.ok .skip w'/\SlB e m A len c (pr++(new++po)) sb'/\FR w0 Ds (pre++(sb'++post)) w'/\Same (sb.map (·.1)) w w'/\sb'.map (·.1)=sb.map (·.1):=by
  obtain⟨sb',w',h1,h2,h3,h4,h5⟩:=P1 (P:=P) (n:=n) (s:=s) (dst:=dst) (ty:=ty) (pos:=pos) (aft:=aft) (g:=g) pre post hF hS hA hj hs hx hy hl hm hv;refine⟨sb',w',h1,?_,h3,h4,h5⟩;have e1:(pr++(mid++po)).take (j*m)=pr:=by rw[<-hp,List.take_left]
  have e2:(pr++(mid++po)).drop (j*m+m)=po:=by rw[<-List.drop_drop,<-hp,List.drop_left,<-hmm,List.drop_left]
  rw[e1,e2]at h2;exact h2
theorem FR.lt_ids{bs:List (Nat × Obj)}(h:FR w0 Ds bs w){x:Nat}(hx:x∈bs.map (·.1)):x<w.heap.size:=by
  obtain⟨p,hp,rfl⟩:=nQ.1 hx;exact Qa (h.memHeap hp)
theorem RX.app{l:List Nat}{sb':List (Nat × Obj)}{w':World}{ds:List D}{cs:List Value}(h:RX w0 (l++sb.map (·.1)) w ds cs)(hs:Same (sb.map (·.1)) w w')(hn:∀p∈sb',p.1∈sb.map (·.1)\/w.heap.size<=p.1):RX w0 (l++sb'.map (·.1)) w' ds cs :=
  h.step hs (λb hb=>mQ.2 (.inr hb)) (λx hx=>by
    rcases mQ.1 hx with hx|hx
    ·exact .inl (mQ.2 (.inl hx))
    obtain⟨p, hp, rfl⟩ := nQ.1 hx;rcases hn p hp with h1|h1
    ·exact .inl (mQ.2 (.inr h1))
    exact .inr h1)
theorem V_(pre post:List (Nat × Obj)){C:World->Prop}{order:Ord}{zs:Lt}{i:Nat}{x y:Operand}{t e m len c j:Nat}{A:Option Addr}{ad:Addr}{pr mid po new:List Value}{v:Value}(hi:ops[i]? = some ⟨none,.store t x y,ty,pos,aft,g⟩)
    (hF:FR w0 Ds (pre++(sb++post)) w) (hS:SlB e m A len c (pr++(mid++po)) sb) (hp:pr.length=j*m) (hmm:mid.length=m) (hA:A=some ad) (hj:j<len)
    (hs:∀w,(sizeOf t).run P w=.ok m w) (hx:ev n s x=.pointer (some (ad.add (j*m)))) (hy:ev n s y=v) (hl:v.cells=new.toArray) (hm:new.length=m) (hv:∀v∈new,one v=true)
    (h:∀sb' w',SlB e m A len c (pr++(new++po)) sb'->FR w0 Ds (pre++(sb'++post)) w'->Same (sb.map (·.1)) w w'->sb'.map (·.1)=sb.map (·.1)->Dg P R n ops kt zs order (λ_=>True) s w')
    (hw:Ya ops n s ⟨none,.store t x y,ty,pos,aft,g⟩=true:=by rfl) (hz:zs.contains i=true:=by rfl) (hDT:zs.D=(λ_=>True):=by rfl):Dg P R n ops kt zs (.act i order) C s w:=by
  obtain⟨sb',w',h1,h2,h3,h4,h5⟩:=N6 (P:=P) (n:=n) (s:=s) (dst:=none) (ty:=ty) (pos:=pos) (aft:=aft) (g:=g) pre post hF hS hp hmm hA hj hs hx hy hl hm hv;exact MG hi h1 (h sb' w' h2 h3 h4 h5) hw hz hDT
end
inductive Spl:List (Nat × Obj)->List (Nat × Obj)->List (Nat × Obj)->List (Nat × Obj)->Prop
  | z {sb post:List (Nat × Obj)}:Spl (sb++post) [] sb post
  | c {x:Nat × Obj} {l pre sb post:List (Nat × Obj)}:Spl l pre sb post->Spl (x::l) (x::pre) sb post
  | a {base l pre sb post:List (Nat × Obj)}:Spl l pre sb post->Spl (base++l) (base++pre) sb post
theorem Spl.eq{l pre sb post:List (Nat × Obj)}(h:Spl l pre sb post):l=pre++(sb++post):=by
  induction h with
  | z=>rfl
  | c _ ih=>rw[ih];rfl
  | a _ ih=>rw[ih,sQ]
section
variable {P:Program}{R:Exit->Act->World->Prop}{n:Nat}{kt:Kt}{s:Nat->Value}{w:World}{ops rest:List Oper}
variable {d:Nat}{ty:TypeId}{pos:String}{aft:Array Edge}{g:Option (Nat × Bool)}
variable {w0:World}{Ds:List Nat}{sb bs_ pre post:List (Nat × Obj)}
theorem OO{x y:Operand}{t e m bytes:Nat}{A A2:Option Addr}{len c k c2:Nat}{xs news:List Value}(hE:Elems P t e m bytes)
    (hF:FR w0 Ds bs_ w) (hS:SlB e m A len c xs sb) (hx:ev n s x=.slice A len c) (hy:ev n s y=.slice A2 k c2)
    (hl:news.length=k*m) (hnews:k≠0->∃a,A2=some a/\∀j u,news[j]? = some u->w.cell? (a.add j)=some u) (h1:∀u∈news,u.oneCell'=true)
    (h63:len+k<=maxLen) {len':Nat} {ys:List Value} (hlen:len+k=len') (hys:xs++news=ys) (hbytes:(len+k)*bytes<=140737488355328)
    (h:∀A' c' sb' w',SlB e m A' len' c' ys sb'->FR w0 Ds (pre++(sb'++post)) w'->Same (sb.map (·.1)) w w'->(∀p∈sb',p.1∈sb.map (·.1)\/w.heap.size<=p.1)->Og P R n ops kt rest (Be s d (.slice A' len' c')) w')
    (hw:Ya ops n s ⟨some d,.call ⟨.builtin .append,#[x,y],#[t,t]⟩,ty,pos,aft,g⟩=true:=by rfl) (hsp:Spl bs_ pre sb post:=by repeat (first|exact Spl.z|apply Spl.c|apply Spl.a)):Og P R n ops kt (⟨some d,.call ⟨.builtin .append,#[x,y],#[t,t]⟩,ty,pos,aft,g⟩::rest) s w :=
  Yp pre post hE (hsp.eq▸hF) hS hx hy hl hnews h1 h63 hlen hys hbytes h hw
end
theorem Nt{sb:List (Nat × Obj)}:∀(segs:List (List (Nat × Obj)))(q:Nat),segs[q]? = some sb->∀s,(segs.set q s).flatten=(segs.take q).flatten++(s++(segs.drop (q+1)).flatten)
  | [],_,h,_=>by simp at h
  | x::l,0,_,s=>by simp
  | x :: l, q + 1, h, s => by
    have:=Nt l q (by simpa using h) s;simp[this]
section
variable {P:Program}{R:Exit->Act->World->Prop}{n:Nat}{kt:Kt}{s:Nat->Value}{w:World}{ops rest:List Oper}
variable {d:Nat}{ty:TypeId}{pos:String}{aft:Array Edge}{g:Option (Nat × Bool)}
variable {w0:World}{Ds:List Nat}{sb:List (Nat × Obj)}
theorem OL(base:List (Nat × Obj))(segs:List (List (Nat × Obj)))(q:Nat){C:World->Prop}{order:Ord}{zs:Lt}{i:Nat}{x y:Operand}{t e m bytes:Nat}{A A2:Option Addr}{len c k c2:Nat}{xs news:List Value}
    (hi:ops[i]? = some ⟨some d,.call ⟨.builtin .append,#[x,y],#[t,t]⟩,ty,pos,aft,g⟩) (hE:Elems P t e m bytes)
    (hF:FR w0 Ds (base++segs.flatten) w) (hS:SlB e m A len c xs sb) (hx:ev n s x=.slice A len c) (hy:ev n s y=.slice A2 k c2)
    (hl:news.length=k*m) (hnews:k≠0->∃a,A2=some a/\∀j u,news[j]? = some u->w.cell? (a.add j)=some u) (h1:∀u∈news,u.oneCell'=true)
    (h63:len+k<=maxLen) {len':Nat} {ys:List Value} (hlen:len+k=len') (hys:xs++news=ys) (hbytes:(len+k)*bytes<=140737488355328)
    (h:∀A' c' sb' w',SlB e m A' len' c' ys sb'->FR w0 Ds (base++(segs.set q sb').flatten) w'->Same (sb.map (·.1)) w w'->(∀p∈sb',p.1∈sb.map (·.1)\/w.heap.size<=p.1)->C w'/\Dg P R n ops kt zs order C (Be s d (.slice A' len' c')) w')
    (hw:Ya ops n s ⟨some d,.call ⟨.builtin .append,#[x,y],#[t,t]⟩,ty,pos,aft,g⟩=true:=by rfl) (hzz:zs.contains i=false:=by rfl) (hq:segs[q]? = some sb:=by rfl):Dg P R n ops kt zs (.act i order) C s w:=by
  have hs:segs.set q sb=segs:=List.ext_getElem? λj=>by rw[List.getElem?_set];split;rename_i e;subst e;split;exact hq.symm;(rename_i h;rw[List.getElem?_eq_none Ca]);rfl
  have e1:base++segs.flatten=(base++(segs.take q).flatten)++(sb++(segs.drop (q+1)).flatten):=by
    conv=>lhs;rw[<-hs,Nt segs q hq sb,<-sQ]
  rw[e1]at hF;refine DD _ _ hi hE hF hS hx hy hl hnews h1 h63 hlen hys hbytes (λA' c' sb' w' a b c d=>h A' c' sb' w' a ?_ c d) hw hzz;rw[Nt segs q hq,<-sQ];exact b
end
abbrev MapL:=List (Str × Value)
def Gn(x:(Str × Value) × Nat):MapEntry:=⟨.string (bs x.1.1),x.1.2,x.2⟩
def Ib(l:MapL)(n:Nat):List MapEntry:=(l.zipIdx n).map Gn
def Rf(l:MapL):Obj:=.map (Ib l 0).toArray l.length
def Af(l:MapL)(k:Str):Option Value:=(l.find? (λx=>decide (x.1=k))).map (·.2)
theorem BH(a b:Str):(bs a==bs b)=decide (a=b):=by
  show (a.toArray==b.toArray)=_;by_cases h:a=b
  ·subst h;simp
  simp[h]
theorem Iw(k:Str):∀(l:MapL)(n i:Nat),Instr.findNow .string (.string (bs k)) (Ib l n) i=some ((l.findIdx? (λx=>decide (x.1=k))).bind λj=>(l[j]?).map λx=>(i+j,x.2))
  | [],n,i=>by simp[Ib,Instr.findNow]
  | x :: l, n, i => by
    have ih:=Iw k l (n+1) (i+1);unfold Ib at ih ⊢;rw[List.zipIdx_cons,List.map_cons,Instr.findNow,List.findIdx?_cons];have hs:Instr.sameNow .string (.string (bs k)) (Gn (x,n)).key=some (decide (x.1=k)):=by
      simp only[Gn,Instr.sameNow,BH]
      congr 1
      by_cases h:k=x.1
      ·simp[h]
      simp[h,show ¬x.1=k from λe=>h e.symm]
    rw[hs];by_cases h:x.1=k
    ·simp[h,Gn]
    simp only[h, decide_false, Bool.false_eq_true, if_false];rw[ih];cases hf:List.findIdx? (λx=>decide (x.1=k)) l with
    | none=>simp
    | some j=>simp;congr 1;funext y;congr 1;omega
theorem YE(l:MapL)(k:Str):((l.findIdx? (λx=>decide (x.1=k))).bind λj=>l[j]?)=l.find? (λx=>decide (x.1=k)):=by
  induction l with
  | nil=>rfl
  | cons x l ih =>
    rw[List.findIdx?_cons,List.find?_cons];by_cases h:x.1=k
    ·simp[h]
    simp only[h, decide_false, Bool.false_eq_true, if_false];rw[<-ih];cases List.findIdx? (λx=>decide (x.1=k)) l <;> simp
section
variable {P:Program}{R:Exit->Act->World->Prop}{n:Nat}{k:Kt}{s:Nat->Value}{w:World}{ops rest:List Oper}
variable {d:Nat}{ty:TypeId}{pos:String}{aft:Array Edge}{g:Option (Nat × Bool)}
variable {w0:World}{Ds:List Nat}{bs_:List (Nat × Obj)}{ρ:Operand->Value}{dst:Option Nat}
theorem Kh{b:Nat}{l:MapL}(h:w.heap[b]? = some (Rf l)):(getObj b).run P w=.ok (.map (Ib l 0).toArray l.length) w:=by
  simp[getObj,Sem.run,h,Rf]
theorem Bx(m:Nat){kt:TypeId}{e:Bool}{x:Str}(hk:P.underlying kt=some .string):(Instr.checkKey e (m+1) kt (.string (bs x))).run P w=.ok () w:=by
  simp[Instr.checkKey,run_underlying hk]
theorem Rg{kt:TypeId}{e:Bool}{x:Str}(hk:P.underlying kt=some .string):(Instr.checkKey e 10000 kt (.string (bs x))).run P w=.ok () w:=Bx 9999 hk
theorem Xh{kt:TypeId}{l:MapL}{x:Str}(hk:P.underlying kt=some .string) :
    (Instr.findKey kt (.string (bs x)) (Ib l 0)).run P w=.ok ((l.findIdx? (λy=>decide (y.1=x))).bind λj=>(l[j]?).map λy=>(j,y.2)) w:=by
  simp only[Instr.findKey,Sem.run_bind,run_underlying hk,Result.andThen_ok,Iw,Nat.zero_add];rfl
theorem Fr(l:MapL)(x:Str):((l.findIdx? (λy=>decide (y.1=x))).bind λj=>(l[j]?).map λy=>(j,y.2)).map (·.2)=Af l x:=by
  unfold Af;rw[<-YE];cases List.findIdx? (λy=>decide (y.1=x)) l with
  | none=>rfl
  | some j=>simp only[Option.bind_some,Option.map_map];rfl
theorem HE{t kt e b:Nat}{x y:Operand}{l:MapL}{key:Str}{z:Value}(ht:P.underlying t=some (.map kt e))(hk:P.underlying kt=some .string)(hz:∀w,(zeroValue e).run P w=.ok z w)
    (hx:ρ x=.map (some b)) (hy:ρ y=.string (bs key)) (hb:w.heap[b]? = some (Rf l)) :
    (execOp ρ ⟨dst,.lookup t x y false,ty,pos,aft,g⟩).run P w=.ok (.value ((Af l key).getD z)) w:=by
  have h:=Fr l key;cases hf:((l.findIdx? (λy=>decide (y.1=key))).bind λj=>(l[j]?).map λy=>(j,y.2))with
  | none=>rw[hf]at h;simp only[Option.map_none]at h;rw[<-h];simp[execOp,Instr.lookup,hx,hy,run_underlying ht,Kh hb,Rg hk,Xh hk,hf,hz]
  | some q=>rw[hf]at h;simp only[Option.map_some]at h;rw[<-h];simp[execOp,Instr.lookup,hx,hy,run_underlying ht,Kh hb,Rg hk,Xh hk,hf]
theorem QB{t kt e b:Nat}{x y:Operand}{l:MapL}{key:Str}{z:Value}(ht:P.underlying t=some (.map kt e))(hk:P.underlying kt=some .string)(hz:∀w,(zeroValue e).run P w=.ok z w)
    (hx:ρ x=.map (some b)) (hy:ρ y=.string (bs key)) (hb:w.heap[b]? = some (Rf l)) :
    (execOp ρ ⟨dst,.lookup t x y true,ty,pos,aft,g⟩).run P w=.ok (.value (.tuple #[(Af l key).getD z,.bool (Af l key).isSome])) w:=by
  have h:=Fr l key;cases hf:((l.findIdx? (λy=>decide (y.1=key))).bind λj=>(l[j]?).map λy=>(j,y.2))with
  | none=>rw[hf]at h;simp only[Option.map_none]at h;rw[<-h];simp[execOp,Instr.lookup,hx,hy,run_underlying ht,Kh hb,Rg hk,Xh hk,hf,hz]
  | some q=>rw[hf]at h;simp only[Option.map_some]at h;rw[<-h];simp[execOp,Instr.lookup,hx,hy,run_underlying ht,Kh hb,Rg hk,Xh hk,hf]
theorem Dy{t kt e:Nat}{x:Operand}{k:IntKind}{i:Int}(ht:P.underlying t=some (.map kt e))(hx:ρ x=.int k i) :
    (execOp ρ ⟨dst,.makeMap t (some x),ty,pos,aft,g⟩).run P w=.ok (.value (.map (some w.heap.size))) (w.alloc (Rf [])):=by
  simp[execOp,Instr.makeMap,hx,run_underlying ht,asInt,asIntOf,newObj,Sem.run,Rf,Ib]
theorem Wq(l:MapL)(x:Str × Value)(n:Nat):Ib (l++[x]) n=Ib l n++[⟨.string (bs x.1),x.2,n+l.length⟩]:=by
  simp[Ib,List.zipIdx_append,Gn]
theorem Z5{b:Nat}{l:MapL}{o:Obj}(h:w.heap[b]? = some (Rf l))(ho:∃es c,o=.map es c):(setObj b o).run P w=.ok () { w with heap:=w.heap.setIfInBounds b o }:=by
  obtain⟨es,c,rfl⟩:=ho;simp[setObj,Sem.run,h,Rf]
theorem R1{t kt e b:Nat}{x y z:Operand}{l:MapL}{key:Str}{v:Value}(ht:P.underlying t=some (.map kt e))(hk:P.underlying kt=some .string)
    (hx:ρ x=.map (some b)) (hy:ρ y=.string (bs key)) (hv:ρ z=v) (hb:w.heap[b]? = some (Rf l)) (hn:Af l key=none) :
    (execOp ρ ⟨dst,.mapUpdate t x y z,ty,pos,aft,g⟩).run P w=.ok .skip { w with heap:=w.heap.setIfInBounds b (Rf (l++[(key,v)])) }:=by
  have h:=Fr l key;rw[hn]at h;have hf:((l.findIdx? (λy=>decide (y.1=key))).bind λj=>(l[j]?).map λy=>(j,y.2))=none:=by
    cases hf:((l.findIdx? (λy=>decide (y.1=key))).bind λj=>(l[j]?).map λy=>(j,y.2))with
    | none=>rfl
    | some q=>rw[hf]at h;cases h
  have ho:Rf (l++[(key,v)])=.map (Ib l 0++[(⟨.string (bs key),v,l.length⟩:MapEntry)]).toArray (l.length+1):=by
    simp[Rf,Wq]
  have hs:=Z5 (P:=P) (o:=Rf (l++[(key,v)])) hb ⟨_,_,rfl⟩;rw[ho]at hs ⊢;simp[execOp,Instr.mapUpdate,hx,hy,hv,run_underlying ht,Kh hb,Rg hk,Xh hk,hf,hs]
theorem HD{t kt e b:Nat}{x:Operand}{l:MapL}(ht:P.underlying t=some (.map kt e))(hx:ρ x=.map (some b))(hb:w.heap[b]? = some (Rf l)) :
    (execOp ρ ⟨dst,.range t x,ty,pos,aft,g⟩).run P w=.ok (.value (.pointer (some ⟨w.heap.size,0,none⟩))) (w.alloc (.mapIter (some b) l.length #[] l.length)):=by
  have hr:=run_range_map (P:=P) w t kt e b (Ib l 0).toArray l.length ht hb;simp[execOp,hx,hr]
theorem Up(l:MapL)(n:Nat):(Ib l n).map (·.born)=List.range' n l.length:=by
  induction l generalizing n with
  | nil=>rfl
  | cons x l ih =>
    have:=ih (n+1);unfold Ib at this ⊢;rw[List.zipIdx_cons,List.map_cons,List.map_cons,this,kQ,List.range'_succ];rfl
theorem Dj(l:MapL)(n:Nat):(Ib l n).length=l.length:=by simp[Ib]
theorem Tm(l:MapL)(n i:Nat)(h:i<l.length):(Ib l n)[i]'(by rw[Dj];exact h)=⟨.string (bs l[i].1),l[i].2,n+i⟩:=by
  simp[Ib,Gn]
theorem Pv(l:MapL):∀x∈(Ib l 0).toArray.toList,x.born<l.length:=by
  intro x hx;have:x.born∈(Ib l 0).map (·.born):=List.mem_map_of_mem (by simpa using hx);rw[Up]at this;simpa using this
theorem KA{ty:TypeId}{it b:Nat}{l:MapL}{seen:Array Nat}(hi:w.heap[it]? = some (.mapIter (some b) l.length seen l.length))(hb:w.heap[b]? = some (Rf l)) :
    ((∀i,i<l.length->seen.contains i=true)/\(Instr.next (V it) false ty).run P w=.ok (.tuple #[.bool false]) w) \/
    ∃(i : Nat)(h : i<l.length)(w' : World), seen.contains i = false /\ (Instr.next (V it) false ty).run P w = .ok (.tuple #[.bool true, .string (bs l[i].1), l[i].2]) w' /\
      Same [it] w w'/\w'.heap[it]? = some (.mapIter (some b) l.length (seen.push i) l.length):=by
  have hb':w.heap[b]? = some (.map (Ib l 0).toArray l.length):=hb;simp only[Instr.next,getObj,Sem.run_bind,Sem.run,hi,hb',Result.andThen,next_test_false seen _ _ _ (Pv l) (gQ _),Bool.false_eq_true,if_false];have hmem:∀x∈(Array.filter (λe=>!seen.contains e.born) (Ib l 0).toArray).toList,x.born<l.length:=λx hx=>Pv l x (by simp at hx ⊢;exact hx.1);generalize hL:Array.filter (λe=>!seen.contains e.born) (Ib l 0).toArray=L at hmem ⊢;have e1:L.filter (λx=>decide (x.born<l.length))=L:=Array.filter_eq_self.2 (λx hx=>by simpa using hmem x (by simpa using hx));have e2:L.filter (λx=>decide (x.born ≥ l.length))=#[]:=by
    rw[Array.filter_eq_empty_iff];intro x hx;have:=hmem x (by simpa using hx);simp;omega
  simp only[e1,e2,Array.append_empty];by_cases h0:L.size=0
  ·left
   have:L=#[]:=Array.eq_empty_of_size_eq_zero h0;subst this;refine⟨λi hi'=>?_,by simp[choose,Sem.run,Question.forced]⟩;rw[Array.filter_eq_empty_iff]at hL;have:=hL (⟨.string (bs l[i].1),l[i].2,0+i⟩) (by
     rw[<-Tm l 0 i hi'];simp)
   simpa using this
  right;have hne:L.isEmpty=false:=by simp[Array.isEmpty,h0]
  simp only[hne,Bool.false_eq_true,if_false,Array.empty_append,Array.size_map];have hch:∃(j:Nat)(w1:World),j<L.size/\Same [] w w1/\w1.heap=w.heap/\(choose (Question.mapNext L.size)).run P w=.ok j w1:=by
    by_cases hf:L.size<=1
    ·exact⟨0,w,by omega,Same.refl _ _,O,by simp[choose,Sem.run,Question.forced,hf]⟩
    exact⟨_,w.drew,Nat.mod_lt _ Ca,Same.drew w,O,by
      simp only[choose,Sem.run,Question.forced,decide_eq_true_eq,hf,if_false,Question.cut];rfl⟩
  obtain⟨j,w1,hj,hs,hh,hrun⟩:=hch;have hjm:L[j]∈Array.filter (λe=>!seen.contains e.born) (Ib l 0).toArray:=by rw[hL];simp
  have hjm':=Array.mem_filter.1 hjm;have hje:L[j]∈Ib l 0:=by simpa using hjm'.1
  obtain⟨i,hi',he⟩:=List.getElem_of_mem hje;rw[Dj]at hi';rw[Tm l 0 i hi',Nat.zero_add]at he;have hns:seen.contains i=false:=by
    have:=hjm'.2;rw[<-he]at this;simpa using this
  have hset:(setObj it (.mapIter (some b) l.length (seen.push i) l.length)).run P w1=.ok () { w1 with heap:=w1.heap.setIfInBounds it (.mapIter (some b) l.length (seen.push i) l.length) }:=by
    simp[setObj,Sem.run,hh,hi]
  refine⟨i,hi',{ w1 with heap:=w1.heap.setIfInBounds it (.mapIter (some b) l.length (seen.push i) l.length) },hns,?_,(hs.mono Pa).trans (Zh w1 it _),?_⟩
  ·simp only[hrun, Array.getElem?_map, Array.getElem?_eq_getElem hj, Option.map_some, Sem.run_bind, <- he, hset, Result.andThen]
   rfl
  have hlt := Qa hi;simp[hh,hlt]
theorem D7{it b i:Nat}{l:MapL}{seen:Array Nat}(h:i<l.length)(hi:w.heap[it]? = some (.mapIter (some b) l.length (seen.push i) l.length))(hb:w.heap[b]? = some (Rf l)) :
    (Instr.entry (V it)).run P w=.ok (.tuple #[.string (bs l[i].1),l[i].2]) w:=by
  have hb':w.heap[b]? = some (.map (Ib l 0).toArray l.length):=hb;have hn:((Ib l 0).map (·.born)).Nodup:=by rw[Up];exact List.nodup_range'
  have hm:(⟨.string (bs l[i].1),l[i].2,0+i⟩:MapEntry)∈Ib l 0:=by rw[<-Tm l 0 i h];simp
  have hf:(Ib l 0).toArray.find? (·.born==i)=some ⟨.string (bs l[i].1),l[i].2,0+i⟩:=by
    have:=find_born _ _ hn hm;rw[Nat.zero_add]at this ⊢;rw[<-Array.find?_toList];exact this
  simp only[Instr.entry,getObj,Sem.run_bind,Sem.run,hi,hb',Result.andThen,Array.back?_push,bne_self_eq_false,Bool.false_eq_true,if_false,hf];rfl
theorem NA{t kt e b:Nat}{x y:Operand}{l:MapL}{key:Str}{z v:Value}(ht:P.underlying t=some (.map kt e))(hk:P.underlying kt=some .string)(hz:∀w,(zeroValue e).run P w=.ok z w)
    (hx:ρ x=.map (some b)) (hy:ρ y=.string (bs key)) (hb:w.heap[b]? = some (Rf l)) (hv:(Af l key).getD z=v) :
    (execOp ρ ⟨dst,.lookup t x y false,ty,pos,aft,g⟩).run P w=.ok (.value v) w:=hv▸HE ht hk hz hx hy hb
theorem Uv{t kt e b:Nat}{x y:Operand}{l:MapL}{key:Str}{z v:Value}{o:Bool}(ht:P.underlying t=some (.map kt e))(hk:P.underlying kt=some .string)(hz:∀w,(zeroValue e).run P w=.ok z w)
    (hx:ρ x=.map (some b)) (hy:ρ y=.string (bs key)) (hb:w.heap[b]? = some (Rf l)) (hv:(Af l key).getD z=v) (ho:(Af l key).isSome=o) :
    (execOp ρ ⟨dst,.lookup t x y true,ty,pos,aft,g⟩).run P w=.ok (.value (.tuple #[v,.bool o])) w:=hv▸ho▸QB ht hk hz hx hy hb
theorem FR.setObj{o o':Obj}{b:Nat}(hF:FR w0 Ds bs_ w)(i:Nat)(hi:bs_[i]? = some (b,o)):FR w0 Ds (bs_.set i (b,o')) { w with heap:=w.heap.setIfInBounds b o' } :=
  hF.change i hi (Zh w b o') (by have:=hF.lt hi;simp[this])
theorem Lr(i:Nat){t kt e b:Nat}{x y z:Operand}{l:MapL}{key:Str}{v:Value}(hF:FR w0 Ds bs_ w)(ht:P.underlying t=some (.map kt e))(hk:P.underlying kt=some .string)
    (hx:ev n s x=.map (some b)) (hy:ev n s y=.string (bs key)) (hv:ev n s z=v) (hi:bs_[i]? = some (b,Rf l)) (hn:Af l key=none)
    (h:∀w',FR w0 Ds (bs_.set i (b,Rf (l++[(key,v)]))) w'->Same [b] w w'->Og P R n ops k rest s w')
    (hw:Ya ops n s ⟨none,.mapUpdate t x y z,ty,pos,aft,g⟩=true:=by rfl):Og P R n ops k (⟨none,.mapUpdate t x y z,ty,pos,aft,g⟩::rest) s w :=
  Y5 (R1 ht hk hx hy hv (hF.heap hi) hn) (h _ (hF.setObj i hi) (Zh w b _)) hw
theorem V0(l l':MapL)(k:Str):Af (l++l') k=(Af l k).or (Af l' k):=by
  unfold Af;rw[List.find?_append];cases List.find? (λx=>decide (x.1=k)) l <;> simp
def Cz(N:Nat)(seen:Array Nat):Nat:=((List.range N).filter λi=>!seen.contains i).length
theorem Y4{N j:Nat}{seen:Array Nat}(hj:j<N)(hn:seen.contains j=false):Cz N (seen.push j)<Cz N seen:=by
  unfold Cz;refine filter_lt (λi=>!seen.contains i) (λi=>!(seen.push j).contains i) (λx hx=>?_) j (by rw[hn];rfl) ?_ _ (List.mem_range.2 hj)
  ·rw[contains_push]at hx
   simp only[Bool.not_or,Bool.and_eq_true]at hx;exact hx.1
  rw[contains_push];simp
theorem OG(i:Nat){x:Operand}{it b:Nat}{l:MapL}{seen:Array Nat}(hF:FR w0 Ds bs_ w)(hx:ev n s x=V it)(hi:bs_[i]? = some (it,.mapIter (some b) l.length seen l.length))(hb:w.heap[b]? = some (Rf l))
    (hend:(∀i,i<l.length->seen.contains i=true)->Og P R n ops k rest (Be s d (.tuple #[.bool false])) w)
    (hnext:∀j w' (h:j<l.length),seen.contains j=false->FR w0 Ds (bs_.set i (it,.mapIter (some b) l.length (seen.push j) l.length)) w'->Same [it] w w'->w'.heap[b]? = some (Rf l) ->
      Og P R n ops k rest (Be s d (.tuple #[.bool true,.string (bs l[j].1),l[j].2])) w')
    (hw:Ya ops n s ⟨some d,.next x false,ty,pos,aft,g⟩=true:=by rfl):Og P R n ops k (⟨some d,.next x false,ty,pos,aft,g⟩::rest) s w:=by
  have hit:=hF.heap hi;have hbit:b≠it:=by
    rintro rfl;rw[hb]at hit;injection hit with hit
    cases hit
  rcases KA (P:=P) (ty:=ty) hit hb with ⟨hall,hr⟩|⟨j,hj,w',hn,hr,hs,hh⟩
  ·refine Oa (v := .tuple #[.bool false]) (w' := w) ?_ (hend hall) hw
   simp[execOp,hx,hr]
  refine Oa (v := .tuple #[.bool true, .string (bs l[j].1), l[j].2]) (w' := w') ?_ (hnext j w' hj hn (hF.change i hi hs hh) hs ((hs.block b (Qa hb) (by simpa using hbit)).trans hb)) hw;simp[execOp,hx,hr]
theorem ZC{x:Operand}{it b j:Nat}{l:MapL}{seen:Array Nat}{v:Value}(hx:ρ x=V it)(h:j<l.length)(hi:w.heap[it]? = some (.mapIter (some b) l.length (seen.push j) l.length))(hb:w.heap[b]? = some (Rf l))(hv:l[j].2=v) :
    (execOp ρ ⟨dst,.entry x,ty,pos,aft,g⟩).run P w=.ok (.value (.tuple #[.string (bs l[j].1),v])) w:=by
  subst hv;simp[execOp,hx,D7 h hi hb]
theorem Wy{t kt e b:Nat}{x:Operand}{l:MapL}(ht:P.underlying t=some (.map kt e))(hx:ρ x=.map (some b))(hb:w.heap[b]? = some (Rf l)) :
    (execOp ρ ⟨dst,.call ⟨.builtin .len,#[x],#[t]⟩,ty,pos,aft,g⟩).run P w=.ok (.value (.int .i64 (l.length:Int))) w:=by
  have hu:∀w,(underlying t).run P w=.ok (.map kt e) w:=run_underlying ht;simp[execOp,resolve,invoke,builtin,Builtin.len_,hx,hu,goInt,Kh hb,Dj]
theorem FR.heap0{b:Nat}{o:Obj}(hF:FR w0 [] bs_ w)(h:w0.heap[b]? = some o):w.heap[b]? = some o:=(hF.same.block b (Qa h) Pa).trans h
end
open Go.RowKit Go.Maps Go.WideShapes
open Go.Proofs (encStr)
def Rm(ks:List Str):List Str:=ks.mergeSort leB
theorem Qo(ks:List Str):(Rm ks).Perm ks:=List.mergeSort_perm ks leB
theorem Dr{ks:List Str}{k:Str}:k∈Rm ks↔k∈ks:=(Qo ks).mem_iff
theorem Vq(ks:List Str):(Rm ks).length=ks.length:=(Qo ks).length_eq
section
variable {P:Program}{md:Region.Mode}{ops:Array Oper}
end
section
variable (P:Program)(n:Nat)(ops:List Oper)
def Pw:List Nat->(Nat->Value)->((Nat->Value)->Prop)->Prop
  | [],s,K=>K s
  | i :: is, s, K => match ops[i]? with
    | none=>False
    | some o=>∃v,((Ya ops n s o=true/\∀w,(execOp (ev n s) o).run P w=.ok (.value v) w)\/(Ya ops n s o=false/\v=undef))/\Pw is (Rw s o.dst v) K
end
section
variable {P:Program}{n:Nat}{ops:List Oper}{Q:Act->World->Prop}
end
section
variable {P:Program}{R:Exit->Act->World->Prop}{n:Nat}{k:Kt}{s:Nat->Value}{w w0:World}{ops:List Oper}{zs:Lt}{Ds:List Nat}{bs_:List (Nat × Obj)}
def Pg(P:Program)(R:Exit->Act->World->Prop)(n:Nat)(ops:List Oper)(k:Kt)(zs:Lt)(is:List Nat)(order:Ord)(s:Nat->Value)(w:World):Prop :=
  Pw P n ops is s λs'=>∃C:World->Prop,C w/\Dg P R n ops k zs order C s' w
variable {d i:Nat}{is:List Nat}{op:Op}{ty:TypeId}{pos:String}{aft:Array Edge}{g:Option (Nat × Bool)}{order:Ord}{v:Value}
end
attribute [irreducible] Pg
section
variable {P:Program}{R:Exit->Act->World->Prop}{n:Nat}{k:Kt}{s:Nat->Value}{w w0:World}{ops rest:List Oper}{Ds:List Nat}{bs_:List (Nat × Obj)}
variable {d:Nat}{ty:TypeId}{pos:String}{aft:Array Edge}{g:Option (Nat × Bool)}
theorem SS{x:Operand}(h:Og P R n ops k rest (Be s d (ev n s x)) w)(hw:Ya ops n s ⟨some d,.move x,ty,pos,aft,g⟩=true:=by rfl):Og P R n ops k (⟨some d,.move x,ty,pos,aft,g⟩::rest) s w:=Oa (Tj rfl) h hw
theorem PS{x:Operand}(h:Og P R n ops k rest (Be s d (ev n s x)) w)(hw:Ya ops n s ⟨some d,.assign x,ty,pos,aft,g⟩=true:=by rfl):Og P R n ops k (⟨some d,.assign x,ty,pos,aft,g⟩::rest) s w:=Oa (Sf rfl) h hw
theorem Ka{id:Nat}{l:List Oper}{y:Code}(h:Og P R n l (.seq y k) l s w):Cg P R n (.seq (.region id l.toArray false) y) k s w:=Ha (Ja h)
theorem Ea{y:Code}(h:Cg P R n y k s w):Og P R n ops (.seq y k) [] s w:=Db (Fa h)
theorem Ec{id:Nat}{l:List Oper}{y:Code}(h:Og P R n l (.seq y k) l s w):Og P R n ops (.seq (.seq (.region id l.toArray false) y) k) [] s w:=Db (Fa (Ha (Ja h)))
theorem ZB{c:Operand}{x y:Code}(hc:ev n s c=.bool false)(h:Cg P R n y k s w):Cg P R n (.cond c x .skip) (.seq y k) s w:=Kj hc (Sa (Fa h))
theorem Ra{f:FuncId}{args:Array Value}{w':World}{val:Value}{op:Op}(hF:FR w0 Ds bs_ w')(hc:Calls P f args w' (Pd λv w''=>v=val/\Same [] w' w''))(hrun:(execOp (ev n s) ⟨some d,op,ty,pos,aft,g⟩).run P w=.ok (.enter f args) w')
    (h:∀w'',FR w0 Ds bs_ w''->Og P R n ops k rest (Be s d val) w'') (hw:Ya ops n s ⟨some d,op,ty,pos,aft,g⟩=true:=by rfl):Og P R n ops k (⟨some d,op,ty,pos,aft,g⟩::rest) s w :=
  Zb hc hrun (λv w'' hq=>by obtain⟨rfl,hE⟩:=hq;exact h w'' (hF.ext hE)) hw
end
section
variable {A B C D E F G H I J:Prop}
theorem NP(a:A:=by rfl):A/\True:=⟨a,trivial⟩
theorem N9(a:A:=by rfl)(b:B:=by rfl):A/\B/\True:=⟨a,b,trivial⟩
theorem V4(a:A:=by rfl)(b:B:=by rfl)(c:C:=by rfl):A/\B/\C/\True:=⟨a,b,c,trivial⟩
theorem Lp(a:A:=by rfl)(b:B:=by rfl)(c:C:=by rfl)(d:D:=by rfl):A/\B/\C/\D/\True:=⟨a,b,c,d,trivial⟩
theorem PJ(a:A:=by rfl)(b:B:=by rfl)(c:C:=by rfl)(d:D:=by rfl)(e:E:=by rfl):A/\B/\C/\D/\E/\True:=⟨a,b,c,d,e,trivial⟩
theorem WQ(a:A:=by rfl)(b:B:=by rfl)(c:C:=by rfl)(d:D:=by rfl)(e:E:=by rfl)(f:F:=by rfl):A/\B/\C/\D/\E/\F/\True:=⟨a,b,c,d,e,f,trivial⟩
theorem ZQ(a:A:=by rfl)(b:B:=by rfl)(c:C:=by rfl)(d:D:=by rfl)(e:E:=by rfl)(f:F:=by rfl)(g:G:=by rfl):A/\B/\C/\D/\E/\F/\G/\True:=⟨a,b,c,d,e,f,g,trivial⟩
theorem HG(a:A:=by rfl)(b:B:=by rfl)(c:C:=by rfl)(d:D:=by rfl)(e:E:=by rfl)(f:F:=by rfl)(g:G:=by rfl)(h:H:=by rfl):A/\B/\C/\D/\E/\F/\G/\H/\True:=⟨a,b,c,d,e,f,g,h,trivial⟩
theorem BR(a:A:=by rfl)(b:B:=by rfl)(c:C:=by rfl)(d:D:=by rfl)(e:E:=by rfl)(f:F:=by rfl)(g:G:=by rfl)(h:H:=by rfl)(i:I:=by rfl):A/\B/\C/\D/\E/\F/\G/\H/\I/\True:=⟨a,b,c,d,e,f,g,h,i,trivial⟩
end
section
variable {P:Program}{n:Nat}{k:Kt}{s:Nat->Value}{w:World}{Q:Value->World->Prop}{fn:Func}
theorem Yc{t:Nat}{v:Value}(h:fn.results=#[.tmp t])(hv:ev n s (.tmp t)=v)(hq:Q v w):Cg P (bodyPost P fn (Pd Q)) n .ret k s w:=Yb (Xb (Va (TD h hv) hq))
end
section
variable {P:Program}{R:Exit->Act->World->Prop}{n:Nat}{kt:Kt}{s:Nat->Value}{w:World}{ops:List Oper}{zs:Lt}{C:World->Prop}{rest:Ord}{i d:Nat}{ty:TypeId}{pos:String}{aft:Array Edge}{g:Option (Nat × Bool)}
theorem QS{x:Operand}(hi:ops[i]? = some ⟨some d,.move x,ty,pos,aft,g⟩)(v:Value)(h:Dg P R n ops kt zs rest C (Be s d v) w)(hv:ev n s x=v:=by rfl)(hw:Ya ops n s ⟨some d,.move x,ty,pos,aft,g⟩=true:=by rfl):Dg P R n ops kt zs (.free i rest) C s w:=Tz hi (λ_ _=>Tj hv) (λ_ _=>Tj hv) h hw
theorem KS{x:Operand}(hi:ops[i]? = some ⟨some d,.assign x,ty,pos,aft,g⟩)(v:Value)(h:Dg P R n ops kt zs rest C (Be s d v) w)(hv:ev n s x=v:=by rfl)(hw:Ya ops n s ⟨some d,.assign x,ty,pos,aft,g⟩=true:=by rfl):Dg P R n ops kt zs (.free i rest) C s w:=Tz hi (λ_ _=>Sf hv) (λ_ _=>Sf hv) h hw
end
section
variable {P:Program}{R:Exit->Act->World->Prop}{n:Nat}{k:Kt}{s:Nat->Value}{w w0:World}{ops rest:List Oper}{Ds:List Nat}{bs_:List (Nat × Obj)}
variable {d:Nat}{ty:TypeId}{pos:String}{aft:Array Edge}{g:Option (Nat × Bool)}
theorem Fi(m:Nat){o:Obj}{op:Op}(hF:FR w0 Ds bs_ w)(hrun:(execOp (ev n s) ⟨some d,op,ty,pos,aft,g⟩).run P w=.ok (.value (.slice (some ⟨w.heap.size,0,none⟩) m m)) (w.alloc o))
    (h:∀b w',b=w.heap.size->FR w0 Ds ((b,o)::bs_) w'->Same [] w w'->Og P R n ops k rest (Be s d (W b m m)) w')
    (hw:Ya ops n s ⟨some d,op,ty,pos,aft,g⟩=true:=by rfl):Og P R n ops k (⟨some d,op,ty,pos,aft,g⟩::rest) s w:=Iq (v:=λb=>W b m m) hF hrun h hw
theorem RC(m:Nat){C:World->Prop}{order:Ord}{zs:Lt}{i:Nat}{o:Obj}{op:Op}(hi:ops[i]? = some ⟨some d,op,ty,pos,aft,g⟩)(hF:FR w0 Ds bs_ w)(hrun:(execOp (ev n s) ⟨some d,op,ty,pos,aft,g⟩).run P w=.ok (.value (.slice (some ⟨w.heap.size,0,none⟩) m m)) (w.alloc o))
    (h:∀b w',b=w.heap.size->FR w0 Ds ((b,o)::bs_) w'->Same [] w w'->C w'/\Dg P R n ops k zs order C (Be s d (W b m m)) w')
    (hw:Ya ops n s ⟨some d,op,ty,pos,aft,g⟩=true:=by rfl) (hz:zs.contains i=false:=by rfl):Dg P R n ops k zs (.act i order) C s w:=Ur (v:=λb=>W b m m) hi hF hrun h hw hz
theorem Tf{C:World->Prop}{order:Ord}{zs:Lt}{i:Nat}{f:FuncId}{args:Array Value}{w':World}{val:Value}{op:Op}(hF:FR w0 Ds bs_ w')(hc:Calls P f args w' (Pd λv w''=>v=val/\Same [] w' w''))(hi:ops[i]? = some ⟨some d,op,ty,pos,aft,g⟩)
    (hrun:(execOp (ev n s) ⟨some d,op,ty,pos,aft,g⟩).run P w=.ok (.enter f args) w') (h:∀w'',FR w0 Ds bs_ w''->C w''/\Dg P R n ops k zs order C (Be s d val) w'') (hw:Ya ops n s ⟨some d,op,ty,pos,aft,g⟩=true:=by rfl) (hz:zs.contains i=false:=by rfl):Dg P R n ops k zs (.act i order) C s w :=
  He hi hc hrun (λv w'' hq=>by obtain⟨rfl,hE⟩:=hq;exact h w'' (hF.ext hE)) hw hz
end
theorem CS{p:Prop}(h:p:=by simp[one]):p:=h
end Go.Scarf
