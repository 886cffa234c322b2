/- A part of the proof. -/
import Derived.Laws.RangeAny
import Derived.Laws.RangeString
import Derived.Test.YtidlkjpohhbbcaaGreatDoorMem
import Derived.WideLaws
import Derived.Laws.Small
import Derived.Laws.AppendOwn
import Derived.WalkSpells
import Derived.LaidEqlPtr
import Derived.Laws.IdiomRangeMap
import Derived.Sort.KeysCollected
set_option linter.all false
namespace Go.Scarf
open List renaming length->aL
open Go.RowKit
variable {cs':Array Value}{c2 len' size:Nat}{news po pr xs ys:List Value}{A2:Option Addr}{S:Nat->Prop}{ad:Addr}{ks ss:List Str}
section
variable {P:Program}{R:Exit->Act->World->Prop}{n:Nat}{k:Kt}{s:Nat->Value}{w:World}{ops rest:List Oper}
variable {d:Nat}{dst:Option Nat}{op:Op}{ty:TypeId}{pos:String}{aft:Array Edge}{g:Option (Nat × Bool)}{ρ:Operand->Value}
variable {w0:World}{Ds:List Nat}{bs_:List (Nat × Obj)}{C:World->Prop}{zs:Lt}{order:Ord}
theorem Ko{F:(Nat->Value)->Prop}{b:Bool}(hx:s d=.bool b)(ht:b=true->F (Ic s d (.bool true)))(hf:b=false->F (Ic s d (.bool false))):F s:=by
  cases b with
  | true=>grind [P5]
  | false=>grind [P5]
theorem Z3{b:Bool}(hx:s d=.bool b)(ht:b=true->Og P R n ops k rest (Ic s d (.bool true)) w)(hf:b=false->Og P R n ops k rest (Ic s d (.bool false)) w):Og P R n ops k rest s w :=
  Ko (F:=λs=>Og P R n ops k rest s w) hx ht hf
theorem GJ{p:Prop}{_:Decidable p}(hx:s d=.bool (decide p))(ht:p->Og P R n ops k rest (Ic s d (.bool true)) w)(hf:¬p->Og P R n ops k rest (Ic s d (.bool false)) w):Og P R n ops k rest s w:=by grind [Z3]
theorem Ky{c:Code}{b:Bool}(hx:s d=.bool b)(ht:b=true->Cg P R n c k (Ic s d (.bool true)) w)(hf:b=false->Cg P R n c k (Ic s d (.bool false)) w):Cg P R n c k s w :=
  Ko (F:=λs=>Cg P R n c k s w) hx ht hf
theorem B5{c:Code}{p:Prop}{_:Decidable p}(hx:s d=.bool (decide p))(ht:p->Cg P R n c k (Ic s d (.bool true)) w)(hf:¬p->Cg P R n c k (Ic s d (.bool false)) w):Cg P R n c k s w:=by grind [Ky]
theorem JQ{b:Bool}(hx:s d=.bool b)(ht:b=true->Dg P R n ops k zs order C (Ic s d (.bool true)) w)(hf:b=false->Dg P R n ops k zs order C (Ic s d (.bool false)) w):Dg P R n ops k zs order C s w :=
  Ko (F:=λs=>Dg P R n ops k zs order C s w) hx ht hf
theorem JY{p:Prop}{_:Decidable p}(hx:s d=.bool (decide p))(ht:p->Dg P R n ops k zs order C (Ic s d (.bool true)) w)(hf:¬p->Dg P R n ops k zs order C (Ic s d (.bool false)) w):Dg P R n ops k zs order C s w:=by grind [JQ]
def Vm{t:TypeId}{a:Addr}{l:List Value}{m:Nat}(ha:∀w,(isAgg t).run P w=.ok true w)(hs:∀w,(sizeOf t).run P w=.ok m w)(hm:aL l=m)
    (hc:∀j (h:j<aL l),w.cell? (a.add j)=some l[j]):(loadVar t a).run P w=.ok (.agg l.toArray) w:=by simp[loadVar,ha,hs,Pp a w l hm hc]
variable {fn:Func}
def HQ{t T:Nat}{a:Addr}{l:List Value}{m:Nat}(h:fn.results=#[.cell t T])(hx:ev n s (.tmp t)=.pointer (some a))(ha:∀w,(isAgg T).run P w=.ok true w)(hs:∀w,(sizeOf T).run P w=.ok m w)(hm:aL l=m)
    (hc:∀j (h:j<aL l),w.cell? (a.add j)=some l[j]):(results fn (Bi n s).tmps).run P w=.ok (.agg l.toArray) w:=by
  have h1:=Ke n s t;rw[hx,Array.getD_eq_getD_getElem?]at h1;simp[results,h,h1,asAddr,Vm ha hs hm hc]
def res_ct{t T u:Nat}{a:Addr}{l:List Value}{m:Nat}{v:Value}(h:fn.results=#[.cell t T,.tmp u])(hx:ev n s (.tmp t)=.pointer (some a))(ha:∀w,(isAgg T).run P w=.ok true w)(hs:∀w,(sizeOf T).run P w=.ok m w)(hm:aL l=m)
    (hc:∀j (h:j<aL l),w.cell? (a.add j)=some l[j]) (hv:ev n s (.tmp u)=v):(results fn (Bi n s).tmps).run P w=.ok (.tuple #[.agg l.toArray,v]) w:=by
  have h1:=Ke n s t;have h2:=Ke n s u;rw[hx,Array.getD_eq_getD_getElem?]at h1;rw[hv,Array.getD_eq_getD_getElem?]at h2;simp[results,h,h1,h2,asAddr,Vm ha hs hm hc]
def Nz{op:BinOp}{t:TypeId}{x y:Operand}{a b:Bool}:(eqGuard op t x y (.bool a) (.bool b)).run P w=.ok () w:=by
  unfold eqGuard;split <;> simp
def D6{t:TypeId}{a b:Bool}(ht:P.underlying t=some .bool):(Op.equal t (.bool a) (.bool b)).run P w=.ok (a==b) w:=run_equalIn_bool w 9999 t a b ht
def x_eqlb{t t':TypeId}{x y:Operand}{a b:Bool}(ht:P.underlying t=some .bool)(hx:ρ x=.bool a)(hy:ρ y=.bool b) :
    (execOp ρ ⟨dst,.binOp .eql t x y t',ty,pos,aft,g⟩).run P w=.ok (.value (.bool (a==b))) w:=by
  have h:=D6 (w:=w) (a:=a) (b:=b) ht;have hg:=Nz (P:=P) (w:=w) (op:=.eql) (t:=t) (x:=x) (y:=y) (a:=a) (b:=b);simp only[execOp,hx,hy,binOp,Sem.run_bind,hg,Result.andThen_ok,h,Sem.run_pure]
def Zp{t:TypeId}{x:Operand}{str:Str}(hF:FR w0 Ds bs_ w)(ht:P.underlying t=some .string)(hx:ev n s x=.string (bs str))
    (h:∀b w',b=w.heap.size->FR w0 Ds ((b,.stringIter (bs str) 0)::bs_) w'->Same [] w w'->Og P R n ops k rest (Ic s d (V b)) w')
    (hw:Ka ops n s ⟨some d,.range t x,ty,pos,aft,g⟩=true:=by rfl):Og P R n ops k (⟨some d,.range t x,ty,pos,aft,g⟩::rest) s w:=by
  refine Ba (w':=w.alloc<|.stringIter (bs str) 0) ?_ (h _ _ O (hF.alloc _)<|Same.alloc w _) hw;have hu:∀w,(underlying t).run P w=.ok .string w:=run_underlying ht;simp[execOp,Instr.range,hu,hx,newObj,Sem.run]
def N3{b:Nat}{a:ByteArray}{p q:Nat}(h:w.heap[b]? = some (.stringIter a p)):(setObj b (.stringIter a q)).run P w=.ok () { w with heap:=w.heap.setIfInBounds b (.stringIter a q) }:=by simp[setObj,Sem.run,h]
def Sr{b:Nat}{a:ByteArray}{p:Nat}(h:w.heap[b]? = some (.stringIter a p)):(getObj b).run P w=.ok (.stringIter a p) w:=by simp[getObj,Sem.run,h]
def Ts(w:World)(b:Nat)(o:Obj):Same [b] w { w with heap:=w.heap.setIfInBounds b o } :=
  ⟨rfl,rfl,rfl,Da,λc _ hn=>by
    show (w.heap.setIfInBounds b o)[c]? = _;rw[Array.getElem?_setIfInBounds_ne];simp at hn;omega⟩
theorem Au(i:Nat){x:Operand}{b p:Nat}{str:Str}(hF:FR w0 Ds bs_ w)(hx:ev n s x=V b)(hi:bs_[i]? = some (b,.stringIter (bs str) p))(hp:p<aL str)
    (h:∀w',FR w0 Ds (bs_.set i (b,.stringIter (bs str) (p+(Utf8.decode (bs str) p).2))) w'->Same [b] w w' ->
      Og P R n ops k rest (Ic s d (.tuple #[.bool true,.int .i64 (p:Int),.int .i32 ((Utf8.decode (bs str) p).1:Int)])) w')
    (hw:Ka ops n s ⟨some d,.next x true,ty,pos,aft,g⟩=true:=by rfl):Og P R n ops k (⟨some d,.next x true,ty,pos,aft,g⟩::rest) s w:=by
  have hh:=hF.heap hi;refine Ba (w':={ w with heap:=w.heap.setIfInBounds b (.stringIter (bs str)<|p+(Utf8.decode (bs str) p).2) }) ?_ (h _ (hF.change i hi (Ts w b _) ?_)<|Ts w b _) hw
  ·have hp' : p<(bs str).size := hp
   generalize bs str=u at *;simp[execOp,Instr.next,hx,Sr hh,hp',N3 hh,goInt]
  grind
def Ol(i:Nat){x:Operand}{b p:Nat}{str:Str}(hF:FR w0 Ds bs_ w)(hx:ev n s x=V b)(hi:bs_[i]? = some (b,.stringIter (bs str) p))(hp:¬p<aL str)
    (h:Og P R n ops k rest (Ic s d (.tuple #[.bool false])) w)
    (hw:Ka ops n s ⟨some d,.next x true,ty,pos,aft,g⟩=true:=by rfl):Og P R n ops k (⟨some d,.next x true,ty,pos,aft,g⟩::rest) s w:=by
  have hh:=hF.heap hi;refine Ba ?_ h hw;have hp':¬p<(bs str).size:=hp;generalize bs str=u at *;simp[execOp,Instr.next,hx,Sr hh,hp']
end
section
variable {P:Program}{f:FuncId}{args:Array Value}{w:World}{v:Value}
def Ji(h:Calls P f args w λe w'=>e=.returned v/\w'=w):Calls P f args w (Za λu w'=>u=v/\Same [] w w') :=
  h.mono λ_ _ ⟨he,hw⟩=>⟨v,he,rfl,by subst hw;exact .refl _ _⟩
def Pu(h:Calls P f args w λe w'=>e=.returned v/\Below w.heap.size w w'):Calls P f args w (Za λu w'=>u=v/\Same [] w w') :=
  h.mono λ_ _ ⟨he,hw⟩=>⟨v,he,rfl,.of_below hw⟩
def Qk{v':Value}(h:Calls P f args w (Za λu w'=>u=v/\Same [] w w'))(e:v=v'):Calls P f args w (Za λu w'=>u=v'/\Same [] w w'):=e▸h
def Gg{Q Q':Value->World->Prop}(h:Calls P f args w (Za Q))(hq:∀v w',Q v w'->Q' v w'):Calls P f args w (Za Q') :=
  h.mono λ_ _ ⟨v,he,hh⟩=>⟨v,he,hq v _ hh⟩
end
section
variable {P:Program}{R:Exit->Act->World->Prop}{n:Nat}{k:Kt}{s:Nat->Value}{w:World}{ops:List Oper}{zs:Lt}
variable {C:World->Prop}{rest:Ord}{i d:Nat}{op:Op}{ty:TypeId}{pos:String}{aft:Array Edge}{g:Option (Nat × Bool)}
variable {w0:World}{Ds:List Nat}{bs_ bs':List (Nat × Obj)}
theorem FR.sub(h:FR w0 Ds bs_ w)(hs:bs'.Sublist bs_):FR w0 Ds bs' w:=⟨h.same,λp hp=>h.own p<|hs.subset hp,h.desc.sublist hs⟩
theorem d_call{f:FuncId}{args:Array Value}{w':World}{Q:Value->World->Prop}(hc:Calls P f args w' (Za Q))(hrun:(execOp (ev n s) ⟨some d,op,ty,pos,aft,g⟩).run P w=.ok (.enter f args) w')
    (h:∀v w'',Q v w''->C w''/\Dg P R n ops k zs rest C (Ic s d v) w'')
    (hi:ops[i]? = some ⟨some d,op,ty,pos,aft,g⟩:=by rfl) (hw:Ka ops n s ⟨some d,op,ty,pos,aft,g⟩=true:=by rfl) (hz:zs.contains i=false:=by rfl):Dg P R n ops k zs (.act i rest) C s w:=by grind [d_enter]
theorem d_act{v:Value}{w':World}(hrun:(execOp (ev n s) ⟨some d,op,ty,pos,aft,g⟩).run P w=.ok (.value v) w')(hC:C w')(h:Dg P R n ops k zs rest C (Ic s d v) w')
    (hi:ops[i]? = some ⟨some d,op,ty,pos,aft,g⟩:=by rfl) (hw:Ka ops n s ⟨some d,op,ty,pos,aft,g⟩=true:=by rfl) (hz:zs.contains i=false:=by rfl):Dg P R n ops k zs (.act i rest) C s w:=by grind [d_val]
theorem Xt{t:TypeId}{x y:Operand}{v:Value}{l:List Value}{b off ii:Nat}{cs:Array Value}{T:TypeId}{dst:Option Nat}(hF:FR w0 Ds bs_ w)(hs:∀w,(sizeOf t).run P w=.ok (aL l) w)
    (hx:ev n s x=.pointer (some ⟨b,off,none⟩)) (hy:ev n s y=v) (hl:v.cells=l.toArray) (hv:∀v∈l,one v=true) (hi:bs_[ii]? = some (b,.cells cs T)) (hsz:off+aL l<=cs.size) (hcs:putA cs off l=cs') :
    ∃w',(execOp (ev n s) ⟨dst,.store t x y,ty,pos,aft,g⟩).run P w=.ok .skip w'/\FR w0 Ds (bs_.set ii (b,.cells cs' T)) w'/\Same [b] w w':=by
  have hh:=hF.heap hi;have hsp:=Tl b off (fz:=(0,0)) l 0 w cs hh;refine⟨_,O4 hs hx hy hl hv λj hj=>?_,?_,hsp.2⟩
  ·have e : (⟨b, off, none⟩ : Addr).add j = ⟨b, off + j, none⟩ := by unfold Addr.add;split <;> simp_all
   rw[e,Db hh];exact⟨⟨cs[off+j]' Aa,Da⟩,Fo hh _⟩
  subst hcs;exact hF.change ii hi hsp.2 (aS hsp.1)
theorem d_storez(ii:Nat){t:TypeId}{x y:Operand}{v:Value}{l:List Value}{b off:Nat}{cs:Array Value}{T:TypeId}(hF:FR w0 Ds bs_ w)(hs:∀w,(sizeOf t).run P w=.ok (aL l) w)
    (hx:ev n s x=.pointer (some ⟨b,off,none⟩)) (hy:ev n s y=v) (hl:v.cells=l.toArray) (hv:∀v∈l,one v=true) (hbi:bs_[ii]? = some (b,.cells cs T)) (hsz:off+aL l<=cs.size) (hcs:putA cs off l=cs')
    (h:∀w',FR w0 Ds (bs_.set ii (b,.cells cs' T)) w'->Same [b] w w'->Dg P R n ops k zs rest (λ_=>True) s w')
    (hi:ops[i]? = some ⟨none,.store t x y,ty,pos,aft,g⟩:=by rfl) (hw:Ka ops n s ⟨none,.store t x y,ty,pos,aft,g⟩=true:=by rfl) (hz:zs.contains i=true:=by rfl) (hDT:zs.D=(λ_=>True):=by rfl) :
    Dg P R n ops k zs (.act i rest) C s w:=by
  obtain⟨w',h1,h2,h3⟩:=Xt (dst:=none) (ty:=ty) (pos:=pos) (aft:=aft) (g:=g) hF hs hx hy hl hv hbi hsz hcs;grind [UR]
theorem Jj(ii:Nat){t:TypeId}{x y:Operand}{v:Value}{l:List Value}{b off:Nat}{cs:Array Value}{T:TypeId}(hF:FR w0 Ds bs_ w)(hs:∀w,(sizeOf t).run P w=.ok (aL l) w)
    (hx:ev n s x=.pointer (some ⟨b,off,none⟩)) (hy:ev n s y=v) (hl:v.cells=l.toArray) (hv:∀v∈l,one v=true) (hbi:bs_[ii]? = some (b,.cells cs T)) (hsz:off+aL l<=cs.size) (hcs:putA cs off l=cs')
    (h:∀w',FR w0 Ds (bs_.set ii (b,.cells cs' T)) w'->Same [b] w w'->zs.D w'/\Dg P R n ops k zs rest zs.D s w')
    (hi:ops[i]? = some ⟨none,.store t x y,ty,pos,aft,g⟩:=by rfl) (hw:Ka ops n s ⟨none,.store t x y,ty,pos,aft,g⟩=true:=by rfl) (hz:zs.contains i=true:=by rfl) :
    Dg P R n ops k zs (.act i rest) C s w:=by
  obtain⟨w',h1,h2,h3⟩:=Xt (dst:=none) (ty:=ty) (pos:=pos) (aft:=aft) (g:=g) hF hs hx hy hl hv hbi hsz hcs;grind [d_unitD]
def d_store(ii:Nat){t:TypeId}{x y:Operand}{v:Value}{l:List Value}{b off:Nat}{cs:Array Value}{T:TypeId}(hF:FR w0 Ds bs_ w)(hs:∀w,(sizeOf t).run P w=.ok (aL l) w)
    (hx:ev n s x=.pointer (some ⟨b,off,none⟩)) (hy:ev n s y=v) (hl:v.cells=l.toArray) (hv:∀v∈l,one v=true) (hbi:bs_[ii]? = some (b,.cells cs T)) (hsz:off+aL l<=cs.size) (hcs:putA cs off l=cs')
    (h:∀w',FR w0 Ds (bs_.set ii (b,.cells cs' T)) w'->Same [b] w w'->C w'/\Dg P R n ops k zs rest C s w')
    (hi:ops[i]? = some ⟨none,.store t x y,ty,pos,aft,g⟩:=by rfl) (hw:Ka ops n s ⟨none,.store t x y,ty,pos,aft,g⟩=true:=by rfl) (hz:zs.contains i=false:=by rfl) :
    Dg P R n ops k zs (.act i rest) C s w:=by
  obtain⟨w',h1,h2,h3⟩:=Xt (dst:=none) (ty:=ty) (pos:=pos) (aft:=aft) (g:=g) hF hs hx hy hl hv hbi hsz hcs;unfold Dg Dw YQ;rw[hi];simp only[hw,if_true,h1];unfold Dk;rw[hz];have h4:=(h w' h2 h3).2;unfold Dg at h4;exact⟨C,λ_ h=>h,(h w' h2 h3).1,h4⟩
end
section
variable {P:Program}{R:Exit->Act->World->Prop}{n:Nat}{k:Kt}{s:Nat->Value}{w:World}{ops:List Oper}{zs:Lt}
variable {C:World->Prop}{rest:Ord}{i d:Nat}{op:Op}{ty:TypeId}{pos:String}{aft:Array Edge}{g:Option (Nat × Bool)}
variable {w0:World}{Ds:List Nat}{bs_ bs':List (Nat × Obj)}
theorem Ga{v:Value}(hi:ops[i]? = some ⟨some d,op,ty,pos,aft,g⟩)(hrun:∀w,C w->(execOp (ev n s) ⟨some d,op,ty,pos,aft,g⟩).run P w=.ok (.value v) w)(h:Dg P R n ops k zs rest C (Ic s d v) w)(hw:Ka ops n s ⟨some d,op,ty,pos,aft,g⟩=true:=by rfl)(hps:zs.ps.contains i=false:=by rfl) :
    Dg P R n ops k zs (.free i rest) C s w:=by grind [d_free]
def f_off(hi:ops[i]? = some ⟨some d,op,ty,pos,aft,g⟩)(h:Dg P R n ops k zs rest C (Ic s d undef) w)(hw:Ka ops n s ⟨some d,op,ty,pos,aft,g⟩=false:=by rfl):Dg P R n ops k zs (.free i rest) C s w:=d_off h hi hw
def Yy(h:Dg P R n ops k zs rest C (Ic s d undef) w)(hC:C w)(hi:ops[i]? = some ⟨some d,op,ty,pos,aft,g⟩:=by rfl)(hw:Ka ops n s ⟨some d,op,ty,pos,aft,g⟩=false:=by rfl)(hz:zs.contains i=false:=by rfl):Dg P R n ops k zs (.act i rest) C s w:=d_skip h hC hi hw hz
theorem Nr{f:FuncId}{args:Array Value}{w':World}{Q:Value->World->Prop}(hi:ops[i]? = some ⟨some d,op,ty,pos,aft,g⟩)(hc:Calls P f args w' (Za Q))(hrun:(execOp (ev n s) ⟨some d,op,ty,pos,aft,g⟩).run P w=.ok (.enter f args) w')
    (h:∀v w'',Q v w''->C w''/\Dg P R n ops k zs rest C (Ic s d v) w'') (hw:Ka ops n s ⟨some d,op,ty,pos,aft,g⟩=true:=by rfl) (hz:zs.contains i=false:=by rfl):Dg P R n ops k zs (.act i rest) C s w:=by grind [d_call]
theorem Ct{v:Value}{w':World}(hi:ops[i]? = some ⟨some d,op,ty,pos,aft,g⟩)(hrun:(execOp (ev n s) ⟨some d,op,ty,pos,aft,g⟩).run P w=.ok (.value v) w')(hC:C w')(h:Dg P R n ops k zs rest C (Ic s d v) w')(hw:Ka ops n s ⟨some d,op,ty,pos,aft,g⟩=true:=by rfl)(hz:zs.contains i=false:=by rfl) :
    Dg P R n ops k zs (.act i rest) C s w:=by grind [d_act]
def BG{t:TypeId}{x y:Operand}{v:Value}{l:List Value}{b off:Nat}{cs:Array Value}{T:TypeId}(hi:ops[i]? = some ⟨none,.store t x y,ty,pos,aft,g⟩)(ii:Nat)(hF:FR w0 Ds bs_ w)(hs:∀w,(sizeOf t).run P w=.ok (aL l) w)
    (hx:ev n s x=.pointer (some ⟨b,off,none⟩)) (hy:ev n s y=v) (hl:v.cells=l.toArray) (hv:∀v∈l,one v=true) (hbi:bs_[ii]? = some (b,.cells cs T)) (hsz:off+aL l<=cs.size) (hcs:putA cs off l=cs')
    (h:∀w',FR w0 Ds (bs_.set ii (b,.cells cs' T)) w'->Same [b] w w'->Dg P R n ops k zs rest (λ_=>True) s w') (hw:Ka ops n s ⟨none,.store t x y,ty,pos,aft,g⟩=true:=by rfl) (hz:zs.contains i=true:=by rfl) (hDT:zs.D=(λ_=>True):=by rfl) :
    Dg P R n ops k zs (.act i rest) C s w:=d_storez ii hF hs hx hy hl hv hbi hsz hcs h hi hw hz hDT
def E4{t:TypeId}{x y:Operand}{v:Value}{l:List Value}{b off:Nat}{cs:Array Value}{T:TypeId}(hi:ops[i]? = some ⟨none,.store t x y,ty,pos,aft,g⟩)(ii:Nat)(hF:FR w0 Ds bs_ w)(hs:∀w,(sizeOf t).run P w=.ok (aL l) w)
    (hx:ev n s x=.pointer (some ⟨b,off,none⟩)) (hy:ev n s y=v) (hl:v.cells=l.toArray) (hv:∀v∈l,one v=true) (hbi:bs_[ii]? = some (b,.cells cs T)) (hsz:off+aL l<=cs.size) (hcs:putA cs off l=cs')
    (h:∀w',FR w0 Ds (bs_.set ii (b,.cells cs' T)) w'->Same [b] w w'->C w'/\Dg P R n ops k zs rest C s w') (hw:Ka ops n s ⟨none,.store t x y,ty,pos,aft,g⟩=true:=by rfl) (hz:zs.contains i=false:=by rfl) :
    Dg P R n ops k zs (.act i rest) C s w:=d_store ii hF hs hx hy hl hv hbi hsz hcs h hi hw hz
end
section
variable {P:Program}{R:Exit->Act->World->Prop}{n:Nat}{k:Kt}{s:Nat->Value}{w:World}{ops rest:List Oper}
variable {d:Nat}{ty:TypeId}{pos:String}{aft:Array Edge}{g:Option (Nat × Bool)}
variable {w0:World}{Ds:List Nat}{bs_:List (Nat × Obj)}{ρ:Operand->Value}{dst:Option Nat}
theorem Md{t e len:Nat}{parts:Array (Nat × Operand)}{z:Value}{cs:Array Value}(ht:P.underlying t=some (.slice e))(hs:∀w,(sizeOf e).run P w=.ok size w)(hz:∀w,(zeroValue e).run P w=.ok z w)
    (h1:(len*size<=16777216)=True) (h0:(len*size=0)=False)
    (hf:Instr.fill (λi=>some (i*size,size)) ((Array.range (len*size)).map (z.cells[· % z.cells.size]!)) (parts.toList.map λx=>(x.1,ρ x.2))=some cs) :
    (execOp ρ ⟨dst,.buildSlice t len parts,ty,pos,aft,g⟩).run P w=.ok (.value (.slice (some ⟨w.heap.size,0,none⟩) len len)) (w.alloc (.cells cs e)):=by
  have hu:∀w,(underlying t).run P w=.ok (.slice e) w:=run_underlying ht;have h1':¬2 ^ 24<len*size:=qK
  have h0':¬len*size=0:=qK
  simp[execOp,Instr.buildSlice,hu,hs,hz,h1',h0',hf,newRow,newObj,Sem.run]
def Wr{v:Nat->Value}{o:Obj}{op:Op}(hF:FR w0 Ds bs_ w)(hrun:(execOp (ev n s) ⟨some d,op,ty,pos,aft,g⟩).run P w=.ok (.value (v w.heap.size)) (w.alloc o))
    (h:∀b w',b=w.heap.size->FR w0 Ds ((b,o)::bs_) w'->Same [] w w'->Og P R n ops k rest (Ic s d (v b)) w')
    (hw:Ka ops n s ⟨some d,op,ty,pos,aft,g⟩=true:=by rfl):Og P R n ops k (⟨some d,op,ty,pos,aft,g⟩::rest) s w :=
  Ba hrun (h _ _ rfl (hF.alloc _)<|Same.alloc w _) hw
def Y5{C:World->Prop}{order:Ord}{zs:Lt}{i:Nat}{v:Nat->Value}{o:Obj}{op:Op}(hi:ops[i]? = some ⟨some d,op,ty,pos,aft,g⟩)(hF:FR w0 Ds bs_ w)(hrun:(execOp (ev n s) ⟨some d,op,ty,pos,aft,g⟩).run P w=.ok (.value (v w.heap.size)) (w.alloc o))
    (h:∀b w',b=w.heap.size->FR w0 Ds ((b,o)::bs_) w'->Same [] w w'->C w'/\Dg P R n ops k zs order C (Ic s d (v b)) w')
    (hw:Ka ops n s ⟨some d,op,ty,pos,aft,g⟩=true:=by rfl) (hz:zs.contains i=false:=by rfl):Dg P R n ops k zs (.act i order) C s w :=
  let r:=h _ _ rfl (hF.alloc _)<|Same.alloc w _
  Ct hi hrun r.1 r.2 hw hz
theorem Te(b o m:Nat):(⟨b,o,none⟩:Addr).add m=⟨b,o+m,none⟩:=by
  unfold Addr.add;grind
def Kb{t e m:Nat}{x y:Operand}{kk:IntKind}{b o len cap:Nat}{i:Int}(o':Nat)(ht:Ug P t e m)(hx:ρ x=.slice (some ⟨b,o,none⟩) len cap)(hy:ρ y=.int kk i)(h0:0<=i)(h1:i<len)(ho:o+i.toNat*m=o') :
    (execOp ρ ⟨dst,.indexAddr t x y,ty,pos,aft,g⟩).run P w=.ok (.value (.pointer (some ⟨b,o',none⟩))) w:=by rw[D3 ht hx hy h0 h1,Te,ho]
theorem W_{t t':TypeId}{x:Operand}(ht:P.underlying t=some (.interface (P.methodsAt t)))(hx:ρ x=.nilIface)(hy:ρ (.const .nilIface)=.nilIface):(execOp ρ ⟨dst,.binOp .neq t x (.const .nilIface) t',ty,pos,aft,g⟩).run P w=.ok (.value (.bool false)) w:=by
  have h:=run_neq_nil_nil (P:=P) (w:=w) t ht;have hg:(eqGuard .neq t x (.const .nilIface) .nilIface .nilIface).run P w=.ok () w:=by simp[eqGuard]
  simp only[execOp,hx,hy,Sem.run_bind,hg,Result.andThen_ok,h,Sem.run_pure]
theorem O2{t t':TypeId}{x:Operand}{tp:TypeId}{p:Value}(ht:P.underlying t=some (.interface (P.methodsAt t)))(hx:ρ x=.iface tp p)(hy:ρ (.const .nilIface)=.nilIface):(execOp ρ ⟨dst,.binOp .neq t x (.const .nilIface) t',ty,pos,aft,g⟩).run P w=.ok (.value (.bool true)) w:=by
  have h:=run_neq_held_nil (P:=P) (w:=w) t tp p ht;have hg:(eqGuard .neq t x (.const .nilIface) (.iface tp p) .nilIface).run P w=.ok () w:=by simp[eqGuard]
  simp only[execOp,hx,hy,Sem.run_bind,hg,Result.andThen_ok,h,Sem.run_pure]
theorem x_max{x y:Operand}{ats:Array TypeId}{k:IntKind}{a b:Int}(hx:ρ x=.int k a)(hy:ρ y=.int k b):(execOp ρ ⟨dst,.call ⟨.builtin .max,#[x,y],ats⟩,ty,pos,aft,g⟩).run P w=.ok (.value (.int k (max a b))) w:=by
  have e:(if b>a then b else a)=max a b:=qK
  have h:=run_max_int2 (P:=P) w ats ty k k a b;rw[e]at h;simp[execOp,resolve,invoke,builtin,hx,hy,h]
theorem Pi{fn:Fn}{x:Operand}{v:Value}(hx:ρ x=v:=by rfl):(execOp ρ ⟨dst,.makeFunc fn #[] #[x],ty,pos,aft,g⟩).run P w=.ok (.value (.func fn #[] #[v])) w:=by grind [Cw]
theorem Fr{fn:Fn}{x:Operand}{v:Value}(hx:ρ x=v):(execOp ρ ⟨dst,.makeFunc fn #[x] #[],ty,pos,aft,g⟩).run P w=.ok (.value (.func fn #[v] #[])) w:=by grind [Cw]
theorem AC{fn:Fn}{x y:Operand}{v u:Value}(hx:ρ x=v)(hy:ρ y=u):(execOp ρ ⟨dst,.makeFunc fn #[] #[x,y],ty,pos,aft,g⟩).run P w=.ok (.value (.func fn #[] #[v,u])) w:=by grind [Cw]
theorem OB:∀(l pre:List Value)(cs:Array Value),cs.size=aL pre+aL l->cs.toList.take (aL pre)=pre->putA cs (aL pre) l=(pre++l).toArray
  | [], pre, cs, hs, hp => by
    simp only[cZ,Nat.add_zero]at hs;have:cs.toList=pre:=by rw[eZ (by have:=Array.length_toList (xs:=cs);omega)]at hp;exact hp
    simp only[putA,qQ];rw[<-this]
  | v :: l, pre, cs, hs, hp => by
    simp only[kQ]at hs;have hlt:aL pre<(cs.toList.set (aL pre) v).length:=by have:=Array.length_toList (xs:=cs);rw[List.length_set];omega
    have ih:=OB l (pre++[v]) (cs.setIfInBounds (aL pre) v) qM (by
      rw[Array.toList_setIfInBounds,dQ,List.length_singleton,iQ hlt,List.getElem_set_self,List.take_set_of_le<|gQ _,hp])
    rw[putA,show pre++v::l=pre++[v]++l by simp,<-ih];simp
theorem Ij{cs:Array Value}{l:List Value}(h:cs.size=aL l):putA cs 0 l=l.toArray:=by
  have:=OB l [] cs (aS h) Da;grind
end
def Y(P:Program)(ρ:Operand->Value)(op:Op)(v:Value):Prop:=∀dst ty pos aft g w,(execOp ρ ⟨dst,op,ty,pos,aft,g⟩).run P w=.ok (.value v) w
def YC(C:World->Prop)(P:Program)(ρ:Operand->Value)(op:Op)(v:Value):Prop:=∀dst ty pos aft g w,C w->(execOp ρ ⟨dst,op,ty,pos,aft,g⟩).run P w=.ok (.value v) w
section
variable {P:Program}{ρ:Operand->Value}{x y z:Operand}{t t' e b off m m_ c_ j:Nat}{cs vs:Array Value}{kk:IntKind}{A:Option Addr}
def ymi{a:Int}(hx:ρ x=.int kk a:=by rfl):Y P ρ (.move x) (.int kk a):=λ_ _ _ _ _ _=>Zn hx
def ymb{a:Bool}(hx:ρ x=.bool a):Y P ρ (.move x) (.bool a):=λ_ _ _ _ _ _=>Zn hx
def yms{a:ByteArray}(hx:ρ x=.string a):Y P ρ (.move x) (.string a):=λ_ _ _ _ _ _=>Zn hx
def ymt(hx:ρ x=.tuple cs):Y P ρ (.move x) (.tuple cs):=λ_ _ _ _ _ _=>Zn hx
def ymu  : Y P ρ (.move x) (ρ x):=λ_ _ _ _ _ _=>Zn rfl
def yai{a:Int}(hx:ρ x=.int kk a):Y P ρ (.assign x) (.int kk a):=λ_ _ _ _ _ _=>Un hx
def yau  : Y P ρ (.assign x) (ρ x):=λ_ _ _ _ _ _=>Un rfl
def yptb{a:Bool}(hc:ρ x=.bool true)(hx:ρ y=.bool a):Y P ρ (.pick x y z) (.bool a):=λ_ _ _ _ _ _=>TQ hc hx
def ypfb{a:Bool}(hc:ρ x=.bool false)(hx:ρ z=.bool a):Y P ρ (.pick x y z) (.bool a):=λ_ _ _ _ _ _=>RP hc hx
def yxi{a:Int}(hx:ρ x=.tuple vs)(hv:vs[j]? = some (.int kk a)):Y P ρ (.extract x j) (.int kk a):=λ_ _ _ _ _ _=>Gn hx hv
def yxg(hx:ρ x=.tuple vs)(hv:vs[j]? = some (.agg cs)):Y P ρ (.extract x j) (.agg cs):=λ_ _ _ _ _ _=>Gn hx hv
def yfa{o:Nat}(hf:Hb P t j off)(hx:ρ x=.pointer (some ⟨b,o,none⟩)):Y P ρ (.fieldAddr t x j) (.pointer (some ⟨b,o+off,none⟩)):=λ_ _ _ _ _ _=>IE hf hx
def ync{a:Addr}(hx:ρ x=.pointer (some a)):Y P ρ (.nilCheck x) (.pointer (some a)):=λ_ _ _ _ _ _=>LK hx
def ylt{a b:Int}(hx:ρ x=.int kk a)(hy:ρ y=.int kk b):Y P ρ (.binOp .lss t x y t') (.bool (decide (a<b))):=λ_ _ _ _ _ _=>Uy (hx:=hx) (hy:=hy)
def yle{a b:Int}(hx:ρ x=.int kk a)(hy:ρ y=.int kk b):Y P ρ (.binOp .leq t x y t') (.bool (decide (a<=b))):=λ_ _ _ _ _ _=>VR hx hy
def ygt{a b:Int}(hx:ρ x=.int kk a)(hy:ρ y=.int kk b):Y P ρ (.binOp .gtr t x y t') (.bool (decide (b<a))):=λ_ _ _ _ _ _=>H3 (hx:=hx) (hy:=hy)
def yge{a b:Int}(hx:ρ x=.int kk a)(hy:ρ y=.int kk b):Y P ρ (.binOp .geq t x y t') (.bool (decide (b<=a))):=λ_ _ _ _ _ _=>AG hx hy
def yeq{a b:Int}(hx:ρ x=.int kk a)(hy:ρ y=.int kk b):Y P ρ (.binOp .eql t x y t') (.bool (decide (a=b))):=λ_ _ _ _ _ _=>El (hx:=hx) (hy:=hy)
def yne{a b:Int}(hx:ρ x=.int kk a)(hy:ρ y=.int kk b):Y P ρ (.binOp .neq t x y t') (.bool (decide (a≠b))):=λ_ _ _ _ _ _=>AR hx hy
def yes{a b:Str}(hx:ρ x=.string (bs a))(hy:ρ y=.string (bs b)):Y P ρ (.binOp .eql t x y t') (.bool (decide (a=b))):=λ_ _ _ _ _ _=>Bw hx hy
def yns{a b:Str}(hx:ρ x=.string (bs a))(hy:ρ y=.string (bs b)):Y P ρ (.binOp .neq t x y t') (.bool (decide (a≠b))):=λ_ _ _ _ _ _=>DX hx hy
def yss{a b:Str}(hx:ρ x=.string (bs a))(hy:ρ y=.string (bs b)):Y P ρ (.binOp .lss t x y t') (.bool (Jf a b)):=λ_ _ _ _ _ _=>x_lsss hx hy
def ynd{p:Prop}{_:Decidable p}(hx:ρ x=.bool (decide p)):Y P ρ (.unOp .not t x) (.bool (decide (¬p))):=λ_ _ _ _ _ _=>x_notd hx
def ynb{b:Bool}(hx:ρ x=.bool b):Y P ρ (.unOp .not t x) (.bool (!b)):=λ_ _ _ _ _ _=>x_not hx
def yln(ht:P.underlying t=some (.slice e))(hx:ρ x=.slice A m_ c_):Y P ρ (.call ⟨.builtin .len,#[x],#[t]⟩) (.int .i64 m_):=λ_ _ _ _ _ _=>II ht hx
def ylx{a:Str}(ht:P.underlying t=some .string)(hx:ρ x=.string (bs a)):Y P ρ (.call ⟨.builtin .len,#[x],#[t]⟩) (.int .i64 (aL a:Int)):=λ_ _ _ _ _ _=>LE ht hx
def Wd{a b:Int}(e:Int)(hx:ρ x=.int .i64 a:=by rfl)(hy:ρ y=.int .i64 b:=by rfl)(h:IntKind.i64.wrap (a+b)=e:=by exact Gd Aa Aa Aa):Y P ρ (.binOp .add t x y t') (.int .i64 e):=λ_ _ _ _ _ _=>Cl hx hy h
def Uh{a b:Int}(hx:ρ x=.int .i64 a:=by rfl)(hy:ρ y=.int .i64 b:=by rfl)(h:IntKind.i64.wrap (a+b)=a+b:=by exact Ge Aa Aa):Y P ρ (.binOp .add t x y t') (.int .i64 (a+b)):=λ_ _ _ _ _ _=>Cl hx hy h
def AB{a b:Int}(e:Int)(hx:ρ x=.int .i64 a:=by rfl)(hy:ρ y=.int .i64 b:=by rfl)(h:IntKind.i64.wrap (a-b)=e:=by exact Gd Aa Aa Aa):Y P ρ (.binOp .sub t x y t') (.int .i64 e):=λ_ _ _ _ _ _=>Ho hx hy h
def Iy{a b:Int}(hx:ρ x=.int .i64 a:=by rfl)(hy:ρ y=.int .i64 b:=by rfl)(h:IntKind.i64.wrap (a-b)=a-b:=by exact Ge Aa Aa):Y P ρ (.binOp .sub t x y t') (.int .i64 (a-b)):=λ_ _ _ _ _ _=>Ho hx hy h
end
section
variable {P:Program}{R:Exit->Act->World->Prop}{n:Nat}{k:Kt}{s:Nat->Value}{w w0:World}{ops rest:List Oper}{Ds:List Nat}{bs_:List (Nat × Obj)}
variable {d i:Nat}{ty:TypeId}{pos:String}{aft:Array Edge}{g:Option (Nat × Bool)}{zs:Lt}{C:World->Prop}{order:Ord}{op:Op}{v:Value}{x y:Code}
def Zb(hy:Y P (ev n s) op v)(h:Og P R n ops k rest (Ic s d v) w)(hw:Ka ops n s ⟨some d,op,ty,pos,aft,g⟩=true:=by rfl):Og P R n ops k (⟨some d,op,ty,pos,aft,g⟩::rest) s w:=Ba (hy ..) h hw
def CB(hi:ops[i]? = some ⟨some d,op,ty,pos,aft,g⟩)(hy:Y P (ev n s) op v)(h:Dg P R n ops k zs order C (Ic s d v) w)(hw:Ka ops n s ⟨some d,op,ty,pos,aft,g⟩=true:=by rfl):Dg P R n ops k zs (.free i order) C s w:=Wl hi (λw _=>hy _ _ _ _ _ w) (λw _=>hy _ _ _ _ _ w) h hw
def RW(hy:YC (λw'=>w'=w) P (ev n s) op v)(h:Og P R n ops k rest (Ic s d v) w)(hw:Ka ops n s ⟨some d,op,ty,pos,aft,g⟩=true:=by rfl):Og P R n ops k (⟨some d,op,ty,pos,aft,g⟩::rest) s w:=Ba (hy _ _ _ _ _ w rfl) h hw
def f_Y(hi:ops[i]? = some ⟨some d,op,ty,pos,aft,g⟩)(hy:YC C P (ev n s) op v)(h:Dg P R n ops k zs order C (Ic s d v) w)(hw:Ka ops n s ⟨some d,op,ty,pos,aft,g⟩=true:=by rfl)(hps:zs.ps.contains i=false:=by rfl):Dg P R n ops k zs (.free i order) C s w:=Ga hi (λw hC=>hy _ _ _ _ _ w hC) h hw hps
theorem FR.F(hF:FR w0 Ds bs_ w):∀w',w'=w->FR w0 Ds bs_ w':=λ_ h=>h▸hF
def C0{F:World->Prop}(w:World)(h:F w):F w:=h
def C1{F G:World->Prop}(w:World)(h:F w/\G w):F w:=h.1
def G5{p:Prop}{_:Decidable p}(hx:ev n s (.tmp d)=.bool (decide p))(ht:p->Cg P R n x k (Ic s d (.bool true)) w)(hf:¬p->Cg P R n y k (Ic s d (.bool false)) w)(hd:Nat.blt d n=true:=by rfl):Cg P R n (.cond (.tmp d) x y) k s w :=
  B5 kW (λh=>L8 bB<|ht h) (λh=>Zo bB<|hf h)
def c_sb{b:Bool}(hx:ev n s (.tmp d)=.bool b)(hd:Nat.blt d n=true)(ht:b=true->Cg P R n x k (Ic s d (.bool true)) w)(hf:b=false->Cg P R n y k (Ic s d (.bool false)) w):Cg P R n (.cond (.tmp d) x y) k s w :=
  Ky kW (λh=>L8 bB<|ht h) (λh=>Zo bB<|hf h)
variable {ρ:Operand->Value}{q:Operand}{t b off m:Nat}{T:TypeId}{fz:Nat × Nat}{ct:Array Value}
def yli{kk:IntKind}{a:Int}(ha:∀w,(isAgg t).run P w=.ok false w)(hx:ρ q=.pointer (some ⟨b,off,none⟩))(hF:∀w,C w->FR w0 Ds bs_ w)(ii:Nat)(hb:bs_[ii]? = some (b,.cells ct T fz))(hv:ct[off]? = some (.int kk a)):YC C P ρ (.load t q) (.int kk a):=λ_ _ _ _ _ w h=>Xa ha (hx:=hx)<|(hF w h).cell ii hb hv
def yls{a:ByteArray}(ha:∀w,(isAgg t).run P w=.ok false w)(hx:ρ q=.pointer (some ⟨b,off,none⟩))(hF:∀w,C w->FR w0 Ds bs_ w)(ii:Nat)(hb:bs_[ii]? = some (b,.cells ct T fz))(hv:ct[off]? = some (.string a)):YC C P ρ (.load t q) (.string a):=λ_ _ _ _ _ w h=>Xa ha (hx:=hx)<|(hF w h).cell ii hb hv
def yll{A:Option Addr}{m_ c_:Nat}(ha:∀w,(isAgg t).run P w=.ok false w)(hF:∀w,C w->FR w0 Ds bs_ w)(ii:Nat)(hx:ρ q=.pointer (some ⟨b,off,none⟩):=by rfl)(hb:bs_[ii]? = some (b,.cells ct T fz):=by rfl)(hv:ct[off]? = some (.slice A m_ c_):=by rfl):YC C P ρ (.load t q) (.slice A m_ c_):=λ_ _ _ _ _ w h=>Xa ha (hx:=hx)<|(hF w h).cell ii hb hv
def ylu{v:Value}(ha:∀w,(isAgg t).run P w=.ok false w)(hx:ρ q=.pointer (some ⟨b,off,none⟩))(hF:∀w,C w->FR w0 Ds bs_ w)(ii:Nat)(hb:bs_[ii]? = some (b,.cells ct T fz))(hv:ct[off]? = some v):YC C P ρ (.load t q) v:=λ_ _ _ _ _ w h=>Xa ha (hx:=hx)<|(hF w h).cell ii hb hv
def ylg{l:List Value}(ha:∀w,(isAgg t).run P w=.ok true w)(hs:∀w,(sizeOf t).run P w=.ok m w)(hF:∀w,C w->FR w0 Ds bs_ w)(ii:Nat)(hx:ρ q=V b:=by rfl)(hb:bs_[ii]? = some (b,.cells l.toArray T fz):=by rfl)(hm:aL l=m:=by rfl):YC C P ρ (.load t q) (.agg l.toArray):=λ_ _ _ _ _ w h=>Ma ha hs hx hm<|(hF w h).cellsAll ii hb
end
inductive AtI {α:Type}:Nat->List α->α->α->List α->Prop
  | z {a a':α} {l:List α}:AtI 0 (a::l) a a' (a'::l)
  | s {i:Nat} {x a a':α} {l l':List α}:AtI i l a a' l'->AtI (i+1) (x::l) a a' (x::l')
theorem AtI.get{α:Type}{i:Nat}{l l':List α}{a a':α}(h:AtI i l a a' l'):l[i]? = some a:=by
  induction h with
  | z=>rfl
  | s _ ih=>grind
def AtI.set{α:Type}{i:Nat}{l l':List α}{a a':α}(h:AtI i l a a' l'):l.set i a'=l':=by
  induction h with
  | z=>rfl
  | s _ ih=>simp[ih]
def AtI.lt{α:Type}{i:Nat}{l l':List α}{a a':α}(h:AtI i l a a' l'):i<aL l:=(List.getElem?_eq_some_iff.1 h.get).1
def AtI.app{α:Type}{i:Nat}{l l' post:List α}{a a':α}(h:AtI i l a a' l'):AtI i (l++post) a a' (l'++post):=by
  induction h with
  | z=>exact .z
  | s _ ih=>exact .s ih
def Fs{l:List Value}{i:Nat}{v:Value}:putA l.toArray i [v]=(l.set i v).toArray:=by simp[putA]
def sI0{α:Type}{x y:α}{l:List α}:AtI 0 (x::l) x y (y::l):=.z
def sI1{α:Type}{a x y:α}{l:List α}:AtI 1 (a::x::l) x y (a::y::l):=.s (.z)
def sI3{α:Type}{a b c x y:α}{l:List α}:AtI 3 (a::b::c::x::l) x y (a::b::c::y::l):=.s (.s<|.s<|.z)
def sI4{α:Type}{a b c d x y:α}{l:List α}:AtI 4 (a::b::c::d::x::l) x y (a::b::c::d::y::l):=.s (.s<|.s<|.s<|.z)
def sI5{α:Type}{a b c d e x y:α}{l:List α}:AtI 5 (a::b::c::d::e::x::l) x y (a::b::c::d::e::y::l):=.s (.s<|.s<|.s<|.s<|.z)
def sI6{α:Type}{a b c d e f x y:α}{l:List α}:AtI 6 (a::b::c::d::e::f::x::l) x y (a::b::c::d::e::f::y::l):=.s (.s<|.s<|.s<|.s<|.s<|.z)
section
variable {P:Program}{R:Exit->Act->World->Prop}{n:Nat}{k:Kt}{s:Nat->Value}{w w0:World}{ops rest:List Oper}{Ds:List Nat}{bs_ bs':List (Nat × Obj)}
variable {d i:Nat}{ty:TypeId}{pos:String}{aft:Array Edge}{g:Option (Nat × Bool)}{zs:Lt}{C:World->Prop}{order:Ord}{x y:Operand}{t b off ii m:Nat}{l l':List Value}{u:Value}{T:TypeId}
def GZ(v:Value)(hF:FR w0 Ds bs_ w)(hs:∀w,(sizeOf t).run P w=.ok 1 w)(hx:ev n s x=.pointer (some ⟨b,off,none⟩))(hy:ev n s y=v)(hb:AtI ii bs_ (b,.cells l.toArray T) (b,.cells l'.toArray T) bs')(hc:AtI off l u v l')(h:∀w',FR w0 Ds bs' w'->Same [b] w w'->Og P R n ops k rest s w')(hv:v.cells=#[v]:=by rfl)(ho:one v=true:=by rfl)(hw:Ka ops n s ⟨none,.store t x y,ty,pos,aft,g⟩=true:=by rfl):Og P R n ops k (⟨none,.store t x y,ty,pos,aft,g⟩::rest) s w :=
  Ye ii hF (l:=[v]) hs hx hy hv (aS ho) hb.get bP (by rw[Fs,hc.set]) zY hw
def o_sg(hF:FR w0 Ds bs_ w)(hs:∀w,(sizeOf t).run P w=.ok m w)(hx:ev n s x=V b)(hy:ev n s y=.agg l'.toArray)(hb:AtI ii bs_ (b,.cells l.toArray T) (b,.cells l'.toArray T) bs')(h:∀w',FR w0 Ds bs' w'->Same [b] w w'->Og P R n ops k rest s w')(hm:aL l'=m:=by rfl)(hl:aL l=aL l':=by rfl)(ho:l'.all one=true:=by rfl)(hw:Ka ops n s ⟨none,.store t x y,ty,pos,aft,g⟩=true:=by rfl):Og P R n ops k (⟨none,.store t x y,ty,pos,aft,g⟩::rest) s w :=
  Ye ii hF (l:=l') jU hx hy rfl (List.all_eq_true.1 ho) hb.get (by simp[hl]) (Ij (aS hl)) zY hw
def f_st(v:Value)(hi:ops[i]? = some ⟨none,.store t x y,ty,pos,aft,g⟩)(hF:FR w0 Ds bs_ w)(hs:∀w,(sizeOf t).run P w=.ok 1 w)(hx:ev n s x=.pointer (some ⟨b,off,none⟩))(hy:ev n s y=v)(hb:AtI ii bs_ (b,.cells l.toArray T) (b,.cells l'.toArray T) bs')(hc:AtI off l u v l')(h:∀w',FR w0 Ds bs' w'->Same [b] w w'->C w'/\Dg P R n ops k zs order C s w')(hv:v.cells=#[v]:=by rfl)(ho:one v=true:=by rfl)(hw:Ka ops n s ⟨none,.store t x y,ty,pos,aft,g⟩=true:=by rfl)(hz:zs.contains i=false:=by rfl):Dg P R n ops k zs (.act i order) C s w :=
  E4 hi ii hF (l:=[v]) hs hx hy hv (aS ho) hb.get bP (by rw[Fs,hc.set]) zY hw hz
def FZ(hi:ops[i]? = some ⟨none,.store t x y,ty,pos,aft,g⟩)(hF:FR w0 Ds bs_ w)(hs:∀w,(sizeOf t).run P w=.ok m w)(hx:ev n s x=V b)(hy:ev n s y=.agg l'.toArray)(hb:AtI ii bs_ (b,.cells l.toArray T) (b,.cells l'.toArray T) bs')(h:∀w',FR w0 Ds bs' w'->Same [b] w w'->C w'/\Dg P R n ops k zs order C s w')(hm:aL l'=m:=by rfl)(hl:aL l=aL l':=by rfl)(ho:l'.all one=true:=by rfl)(hw:Ka ops n s ⟨none,.store t x y,ty,pos,aft,g⟩=true:=by rfl)(hz:zs.contains i=false:=by rfl):Dg P R n ops k zs (.act i order) C s w :=
  E4 hi ii hF (l:=l') jU hx hy rfl (List.all_eq_true.1 ho) hb.get (by simp[hl]) (Ij (aS hl)) zY hw hz
def z_sg(hi:ops[i]? = some ⟨none,.store t x y,ty,pos,aft,g⟩)(hF:FR w0 Ds bs_ w)(hs:∀w,(sizeOf t).run P w=.ok m w)(hx:ev n s x=V b)(hy:ev n s y=.agg l'.toArray)(hb:AtI ii bs_ (b,.cells l.toArray T) (b,.cells l'.toArray T) bs')(h:∀w',FR w0 Ds bs' w'->Same [b] w w'->Dg P R n ops k zs order (λ_=>True) s w')(hm:aL l'=m:=by rfl)(hl:aL l=aL l':=by rfl)(ho:l'.all one=true:=by rfl)(hw:Ka ops n s ⟨none,.store t x y,ty,pos,aft,g⟩=true:=by rfl)(hz:zs.contains i=true:=by rfl)(hDT:zs.D=(λ_=>True):=by rfl):Dg P R n ops k zs (.act i order) C s w :=
  BG hi ii hF (l:=l') jU hx hy rfl (List.all_eq_true.1 ho) hb.get (by simp[hl]) (Ij (aS hl)) zY hw hz hDT
def D_st(v:Value)(hi:ops[i]? = some ⟨none,.store t x y,ty,pos,aft,g⟩)(hF:FR w0 Ds bs_ w)(hs:∀w,(sizeOf t).run P w=.ok 1 w)(hx:ev n s x=.pointer (some ⟨b,off,none⟩))(hy:ev n s y=v)(hb:AtI ii bs_ (b,.cells l.toArray T) (b,.cells l'.toArray T) bs')(hc:AtI off l u v l')(h:∀w',FR w0 Ds bs' w'->Same [b] w w'->zs.D w'/\Dg P R n ops k zs order zs.D s w')(hv:v.cells=#[v]:=by rfl)(ho:one v=true:=by rfl)(hw:Ka ops n s ⟨none,.store t x y,ty,pos,aft,g⟩=true:=by rfl)(hz:zs.contains i=true:=by rfl):Dg P R n ops k zs (.act i order) C s w :=
  Jj ii hF (l:=[v]) hs hx hy hv (aS ho) hb.get bP (by rw[Fs,hc.set]) zY hi hw hz
def D_sg(hi:ops[i]? = some ⟨none,.store t x y,ty,pos,aft,g⟩)(hF:FR w0 Ds bs_ w)(hs:∀w,(sizeOf t).run P w=.ok m w)(hx:ev n s x=V b)(hy:ev n s y=.agg l'.toArray)(hb:AtI ii bs_ (b,.cells l.toArray T) (b,.cells l'.toArray T) bs')(h:∀w',FR w0 Ds bs' w'->Same [b] w w'->zs.D w'/\Dg P R n ops k zs order zs.D s w')(hm:aL l'=m:=by rfl)(hl:aL l=aL l':=by rfl)(ho:l'.all one=true:=by rfl)(hw:Ka ops n s ⟨none,.store t x y,ty,pos,aft,g⟩=true:=by rfl)(hz:zs.contains i=true:=by rfl):Dg P R n ops k zs (.act i order) C s w :=
  Jj ii hF (l:=l') jU hx hy rfl (List.all_eq_true.1 ho) hb.get (by simp[hl]) (Ij (aS hl)) zY hi hw hz
def o_bx(v:Value)(hF:FR w0 Ds bs_ w)(hy:ev n s x=v)(h:∀b w',b=w.heap.size->FR w0 Ds ((b,.cells #[v] t)::bs_) w'->Same [] w w'->Og P R n ops k rest (Ic s d (V b)) w')(hv:v.cells=#[v]:=by rfl)(hw:Ka ops n s ⟨some d,.box t x,ty,pos,aft,g⟩=true:=by rfl):Og P R n ops k (⟨some d,.box t x,ty,pos,aft,g⟩::rest) s w:=Gk hF hy hv h hw
def o_bg{cs:Array Value}(hF:FR w0 Ds bs_ w)(hy:ev n s x=.agg cs)(h:∀b w',b=w.heap.size->FR w0 Ds ((b,.cells cs t)::bs_) w'->Same [] w w'->Og P R n ops k rest (Ic s d (V b)) w')(hw:Ka ops n s ⟨some d,.box t x,ty,pos,aft,g⟩=true:=by rfl):Og P R n ops k (⟨some d,.box t x,ty,pos,aft,g⟩::rest) s w:=Gk hF hy rfl h hw
def o_ly(v:Value){z:Value}{ty':TypeId}{pos':String}{aft':Array Edge}(hF:FR w0 Ds bs_ w)(hz:∀w,(zeroValue t).run P w=.ok z w)(hs:∀w,(sizeOf t).run P w=.ok 1 w)(hy:ev n (Ic s d (.pointer (some ⟨w.heap.size,0,none⟩))) y=v)(h:∀b w',b=w.heap.size->FR w0 Ds ((b,.cells #[v] t)::bs_) w'->Same [] w w'->Og P R n ops k rest (Ic s d (V b)) w')(hzl:z.cells.size=1:=by rfl)(hv:v.cells=#[v]:=by rfl)(ho:one v=true:=by rfl)(hdn:Nat.blt d n=true:=by rfl):Og P R n ops k (⟨some d,.alloc t,ty,pos,aft,none⟩::⟨none,.store t (.tmp d) y,ty',pos',aft',none⟩::rest) s w:=Wu (l:=[v]) hF hz hs hzl hy hv (aS ho) hdn h
def X2{z:Value}{ty':TypeId}{pos':String}{aft':Array Edge}(hF:FR w0 Ds bs_ w)(hz:∀w,(zeroValue t).run P w=.ok z w)(hs:∀w,(sizeOf t).run P w=.ok m w)(hy:ev n (Ic s d (.pointer (some ⟨w.heap.size,0,none⟩))) y=.agg l.toArray)(h:∀b w',b=w.heap.size->FR w0 Ds ((b,.cells l.toArray t)::bs_) w'->Same [] w w'->Og P R n ops k rest (Ic s d (V b)) w')(hm:aL l=m:=by rfl)(hzl:z.cells.size=aL l:=by rfl)(ho:l.all one=true:=by rfl)(hdn:Nat.blt d n=true:=by rfl):Og P R n ops k (⟨some d,.alloc t,ty,pos,aft,none⟩::⟨none,.store t (.tmp d) y,ty',pos',aft',none⟩::rest) s w:=Wu (l:=l) hF hz jU hzl hy rfl (List.all_eq_true.1 ho) hdn h
theorem Rb{id:Nat}(order:Ord)(hF:FR w0 Ds bs_ w)(h:∀w',FR w0 Ds bs_ w'->Dg P R n ops k zs order (λw=>FR w0 Ds bs_ w) s w')(hm:P.follows .mixedOrders=true:=by kernel_rfl)(hs:Region.noSelect ops.toArray=true:=by kernel_rfl)(hB:Oj .any ops.toArray zs true ops.toArray.size order (Array.replicate ops.toArray.size false)=true:=by kernel_rfl):Cg P R n (.region id ops.toArray true) k s w:=by grind [GP]
theorem Gb{id:Nat}(zs:Lt)(order:Ord)(hF:FR w0 Ds bs_ w)(h:∀w',FR w0 Ds bs_ w'->Same [] w w'->∃C:World->Prop,C w'/\Dg P R n ops k zs order C s w')(hm:P.follows .mixedOrders=true:=by kernel_rfl)(hs:Region.noSelect ops.toArray=true:=by kernel_rfl)(hB:Oj .any ops.toArray zs true ops.toArray.size order (Array.replicate ops.toArray.size false)=true:=by kernel_rfl):Cg P R n (.region id ops.toArray true) k s w:=by grind [GP]
end
class Rn (m:Nat) (A:Prop) (B:outParam Prop):Prop where r:B->A
def rn(m:Nat){A B:Prop}[i:Rn m A B](b:B):A:=i.r b
class Bq (a b:Bool):Prop where h:a=b
class SlF (s:Nat->Value) (t:Nat) (v:outParam Value):Prop where h:s t=v
class EvF (n:Nat) (s:Nat->Value) (x:Operand) (v:outParam Value):Prop where h:ev n s x=v
class GlF {α:Type} (l:List α) (i:Nat) (a:outParam α):Prop where h:l[i]? = some a
class HsF (l:List (Nat × Obj)) (b:Nat) (i:outParam Nat) (o:outParam Obj):Prop where h:l[i]? = some (b,o)
class AtF {α:Type} (l:List α) (i:Nat) (a:outParam α) (a':α) (l':outParam (List α)):Prop where h:AtI i l a a' l'
class UbF (l:List (Nat × Obj)) (b:Nat) (o':Obj) (i:outParam Nat) (o:outParam Obj) (l':outParam (List<|Nat × Obj)):Prop where h:AtI i l (b,o) (b,o') l'
class DrF (l:List (Nat × Obj)) (k:Nat) (l':outParam (List<|Nat × Obj)):Prop where h:l.drop k=l'
class AdF (a b:Nat) (c:outParam Nat):Prop where h:a+b=c
class YF (P:Program) (n:Nat) (s:Nat->Value) (op:Op) (v:outParam Value):Prop where h:Y P (ev n s) op v
class YW (P:Program) (n:Nat) (s:Nat->Value) (w:World) (op:Op) (v:outParam Value):Prop where h:YC (λw'=>w'=w) P (ev n s) op v
class GdF (ops:List Oper) (n:Nat) (s:Nat->Value) (g:Option (Nat × Bool)) (b:outParam Bool):Prop where h:∀dst op ty pos aft,Ka ops n s ⟨dst,op,ty,pos,aft,g⟩=b
class KoF (k:Kt) (id:Nat) (k':outParam Kt):Prop where h:k.out id=some k'
class OnF (v:Value):Prop where
  h:v.cells=#[v]
  o:one v=true
class LnF {α:Type} (l:List α) (m:outParam Nat):Prop where h:aL l=m
class OnL (l:List Value):Prop where h:l.all one=true
class AgF (P:Program) (t:TypeId):Prop where h:∀w,(isAgg t).run P w=.ok false w
class AgT (P:Program) (t:TypeId):Prop where h:∀w,(isAgg t).run P w=.ok true w
class SzF (P:Program) (t:TypeId) (m:outParam Nat):Prop where h:∀w,(sizeOf t).run P w=.ok m w
class ZvF (P:Program) (t:TypeId) (m:outParam Nat):Prop where h:∃z,(∀w,(zeroValue t).run P w=.ok z w)/\z.cells.size=m
class FaF (P:Program) (t j:Nat) (off:outParam Nat):Prop where h:Hb P t j off
class UnS (P:Program) (t:TypeId) (e:outParam TypeId):Prop where h:P.underlying t=some (.slice e)
class UnT (P:Program) (t:TypeId):Prop where h:P.underlying t=some .string
instance {a:Bool}:Bq a a:=⟨rfl⟩
instance {a b c:Nat} [h:AdF a b c]:AdF a (b+1) (c+1):=⟨by rw[<-Nat.add_assoc,h.h]⟩
instance {a:Nat}:AdF a 0 a:=⟨rfl⟩
instance {a:Nat}:AdF 0 a a:=⟨Nat.zero_add a⟩
def R6{n t:Nat}(h:Nat.ble n t=false):Nat.blt t n=true:=by
  rw[Nat.blt_eq];rw[<-Bool.not_eq_true,Nat.ble_eq]at h;omega
section
variable {s:Nat->Value}{t d n i m:Nat}{u v:Value}{l:List (Nat × Value)}{α:Type}{a a' x:α}{la la' lx:List α}{b:Nat}{o o':Obj}{p:Nat × Obj}{lb lb' lc:List (Nat × Obj)}{vs:List Value}
instance [h1:Bq (Nat.beq t d) false] [h2:SlF s t v]:SlF (Ic s d u) t v:=⟨by rw[<-h2.h];simp only[Ic,h1.h,cond_false]⟩
instance : SlF (Ic s d v) d v:=⟨by simp[Ic]⟩
instance [h1:Bq (Nat.beq t d) false] [h2:SlF (Gh s l) t v]:SlF (Gh s ((d,u)::l)) t v:=⟨by rw[<-h2.h];simp only[Gh,Ic,h1.h,cond_false]⟩
instance : SlF (Gh s ((d,v)::l)) d v:=⟨by simp[Gh,Ic]⟩
instance : EvF n s (.const v) v:=⟨rfl⟩
instance {g:Nat}:EvF n s (.global g) (V g):=⟨rfl⟩
instance {f:FuncId}:EvF n s (.func f) (.func (.func f) #[] #[]):=⟨rfl⟩
instance [h1:Bq (Nat.ble n t) false] [h2:SlF s t v]:EvF n s (.tmp t) v:=⟨by simp only[ev,R6 h1.h,cond_true,h2.h]⟩
instance [h:GlF la i a]:GlF (a'::la) (i+1) a:=⟨by simpa using h.h⟩
instance : GlF (a::la) 0 a:=⟨rfl⟩
class ApF {α:Type} (c d:List α) (e:outParam (List α)):Prop where h:c++d=e
instance {d:List α}:ApF [] d d:=⟨rfl⟩
instance {c:List α}:ApF c [] c:=⟨qQ c⟩
instance {c d e:List α} [h:ApF c d e]:ApF (a::c) d (a::e):=⟨by rw[List.cons_append,h.h]⟩
instance (priority:=low) {e:List α} [h:ApF la lx e] [k:GlF e i a]:GlF (la++lx) i a:=⟨by rw[h.h];exact k.h⟩
instance (priority:=low) {e:List α} [h:ApF la lx e] [k:LnF e m]:LnF (la++lx) m:=⟨by rw[h.h];exact k.h⟩
class SbF (i m:Nat) (j:outParam Nat):Prop where h:j+m=i
instance {j m:Nat}:SbF (j+m) m j:=⟨rfl⟩
instance {j:Nat} [hl:LnF la m] [hs:SbF i m j] [h:GlF lx j a]:GlF (List.append la lx) i a:=⟨by
  have e:=hs.h;rw[List.append_eq,List.getElem?_append_right (by rw[hl.h];omega),hl.h,show i-m=j by omega];exact h.h⟩
instance [h:GlF la i a]:GlF (List.append la lx) i a:=⟨by
  rw[List.append_eq,List.getElem?_append_left (List.getElem?_eq_some_iff.1 h.h).1];exact h.h⟩
instance [h:HsF lb b i o]:HsF (p::lb) b (i+1) o:=⟨by simpa using h.h⟩
instance : HsF ((b,o)::lb) b 0 o:=⟨rfl⟩
instance [h:HsF lb b i o]:HsF (lc++lb) b (aL lc+i) o:=⟨by rw[List.getElem?_append_right Aa,Nat.add_sub_cancel_left];exact h.h⟩
instance [h:HsF lb b i o]:HsF (lb++lc) b i o:=⟨by rw[List.getElem?_append_left (List.getElem?_eq_some_iff.1 h.h).1];exact h.h⟩
instance [h:AtF la i a a' la']:AtF (x::la) (i+1) a a' (x::la'):=⟨.s h.h⟩
instance : AtF (a::la) 0 a a' (a'::la):=⟨.z⟩
instance [h:AtF la i a a' la']:AtF (la++lx) i a a' (la'++lx):=⟨h.h.app⟩
instance {a0 q:Nat × Obj} [h:AtF lb i a0 q lb'] [k:HsF lb' b m o]:HsF (lb.set i q) b m o:=⟨by rw[h.h.set];exact k.h⟩
instance : DrF lb 0 lb:=⟨rfl⟩
instance [h:DrF lb i lb']:DrF (p::lb) (i+1) lb':=⟨h.h⟩
instance {a0 q:Nat × Obj} [h:AtF lb i a0 q lb'] [k:DrF lb' m lc]:DrF (lb.set i q) m lc:=⟨by rw[h.h.set];exact k.h⟩
instance [h:DrF lb i lb'] [k:HsF lb' b m o]:HsF (lb.drop i) b m o:=⟨by rw[h.h];exact k.h⟩
def AtI.pre{i:Nat}{l l':List α}(q:List α)(h:AtI i l a a' l'):AtI (aL q+i) (q++l) a a' (q++l'):=by
  induction q with
  | nil=>simpa using h
  | cons y q ih=>rw[kQ,Nat.add_right_comm];exact .s ih
instance [h:UbF lb b o' i o lb']:UbF (p::lb) b o' (i+1) o (p::lb'):=⟨.s h.h⟩
instance : UbF ((b,o)::lb) b o' 0 o ((b,o')::lb):=⟨.z⟩
instance [h:UbF lb b o' i o lb']:UbF (lc++lb) b o' (aL lc+i) o (lc++lb'):=⟨h.h.pre lc⟩
instance [h:UbF lb b o' i o lb']:UbF (lb++lc) b o' i o (lb'++lc):=⟨h.h.app⟩
instance {a0 q:Nat × Obj} [h:AtF lb i a0 q lb'] [k:UbF lb' b o' m o lc]:UbF (lb.set i q) b o' m o lc:=⟨by rw[h.h.set];exact k.h⟩
instance [h:DrF lb i lb'] [k:UbF lb' b o' m o lc]:UbF (lb.drop i) b o' m o lc:=⟨by rw[h.h];exact k.h⟩
instance : LnF ([]:List α) 0:=⟨rfl⟩
instance [h:LnF la m]:LnF (a::la) (m+1):=⟨by rw[kQ,h.h]⟩
instance : OnL []:=⟨rfl⟩
instance {vt:List Value} [h:OnL vs] [k:OnL vt]:OnL (vs++vt):=⟨by rw[List.all_append,h.h,k.h];rfl⟩
instance [h:OnF v] [k:OnL vs]:OnL (v::vs):=⟨by rw[List.all_cons,h.o,k.h];rfl⟩
end
section
variable {kk:IntKind}{a:Int}{c:Bool}{s:ByteArray}{A:Option Addr}{n m:Nat}
instance : OnF (.int kk a):=⟨rfl,rfl⟩
instance : OnF (.bool c):=⟨rfl,rfl⟩
instance : OnF (.string s):=⟨rfl,rfl⟩
instance : OnF (.slice A n m):=⟨rfl,rfl⟩
instance : OnF (.pointer A):=⟨rfl,rfl⟩
instance {f:Fn} {a b:Array Value}:OnF (.func f a b):=⟨rfl,rfl⟩
instance {a:Option Nat}:OnF (.map a):=⟨rfl,rfl⟩
instance {a:TypeId} {v:Value}:OnF (.iface a v):=⟨rfl,rfl⟩
instance : OnF .nilIface:=⟨rfl,rfl⟩
instance : OnF .nilFunc:=⟨rfl,rfl⟩
end
section
variable {k k' y z:Kt}{n id id':Nat}{I:(Nat->Value)->World->Prop}{c:Code}
instance [h:KoF k id k']:KoF (.seq c k) id k':=⟨h.h⟩
instance [h:KoF k id k']:KoF (.inv n I k) id k':=⟨h.h⟩
instance [h1:Bq (Nat.beq id' id) false] [h:KoF k id k']:KoF (.block id' k) id k':=⟨by
  simp only[Kt.out];rw[tQ (Nat.ne_of_beq_eq_false h1.h)];exact h.h⟩
instance : KoF (.block id k) id k:=⟨by simp[Kt.out]⟩
end
section
variable {P:Program}{n:Nat}{s:Nat->Value}{x y z q:Operand}{t t' e b off m m_ c_ j o i:Nat}{cs:Array Value}{vs:List Value}{kk:IntKind}{A:Option Addr}{v:Value}{p:Prop}{_:Decidable p}{a1 a2:Int}{s1 s2:Str}{b1:Bool}
instance [h:EvF n s x v]:YF P n s (.move x) v:=⟨λ_ _ _ _ _ _=>Zn h.h⟩
instance [h:EvF n s x v]:YF P n s (.assign x) v:=⟨λ_ _ _ _ _ _=>Un h.h⟩
instance [hc:EvF n s x (.bool true)] [h:EvF n s y v]:YF P n s (.pick x y z) v:=⟨λ_ _ _ _ _ _=>TQ hc.h h.h⟩
instance [hc:EvF n s x (.bool false)] [h:EvF n s z v]:YF P n s (.pick x y z) v:=⟨λ_ _ _ _ _ _=>RP hc.h h.h⟩
instance [hc:EvF n s x (.tuple vs.toArray)] [h:GlF vs j v]:YF P n s (.extract x j) v:=⟨λ_ _ _ _ _ _=>Gn hc.h (aS h.h)⟩
instance [hf:FaF P t j off] [hx:EvF n s x (.pointer (some ⟨b,o,none⟩))] [ho:AdF o off m]:YF P n s (.fieldAddr t x j) (.pointer (some ⟨b,m,none⟩)):=⟨by rw[<-ho.h];exact yfa hf.h hx.h⟩
instance {a:Addr} [hx:EvF n s x (.pointer (some a))]:YF P n s (.nilCheck x) (.pointer (some a)):=⟨ync hx.h⟩
instance [hx:EvF n s x (.int kk a1)] [hy:EvF n s y (.int kk a2)]:YF P n s (.binOp .lss t x y t') (.bool (decide (a1<a2))):=⟨ylt hx.h hy.h⟩
instance [hx:EvF n s x (.int kk a1)] [hy:EvF n s y (.int kk a2)]:YF P n s (.binOp .leq t x y t') (.bool (decide (a1<=a2))):=⟨yle hx.h hy.h⟩
instance [hx:EvF n s x (.int kk a1)] [hy:EvF n s y (.int kk a2)]:YF P n s (.binOp .gtr t x y t') (.bool (decide (a2<a1))):=⟨ygt hx.h hy.h⟩
instance [hx:EvF n s x (.int kk a1)] [hy:EvF n s y (.int kk a2)]:YF P n s (.binOp .geq t x y t') (.bool (decide (a2<=a1))):=⟨yge hx.h hy.h⟩
instance [hx:EvF n s x (.int kk a1)] [hy:EvF n s y (.int kk a2)]:YF P n s (.binOp .eql t x y t') (.bool (decide (a1=a2))):=⟨yeq hx.h hy.h⟩
instance [hx:EvF n s x (.int kk a1)] [hy:EvF n s y (.int kk a2)]:YF P n s (.binOp .neq t x y t') (.bool (decide (a1≠a2))):=⟨yne hx.h hy.h⟩
instance [hx:EvF n s x (.string (bs s1))] [hy:EvF n s y (.string (bs s2))]:YF P n s (.binOp .eql t x y t') (.bool (decide (s1=s2))):=⟨yes hx.h hy.h⟩
instance [hx:EvF n s x (.string (bs s1))] [hy:EvF n s y (.string (bs s2))]:YF P n s (.binOp .neq t x y t') (.bool (decide (s1≠s2))):=⟨yns hx.h hy.h⟩
instance [hx:EvF n s x (.string (bs s1))] [hy:EvF n s y (.string (bs s2))]:YF P n s (.binOp .lss t x y t') (.bool (Jf s1 s2)):=⟨yss hx.h hy.h⟩
instance [hx:EvF n s x (.bool b1)]:YF P n s (.unOp .not t x) (.bool (!b1)):=⟨ynb hx.h⟩
instance [hx:EvF n s x (.bool true)]:YF P n s (.unOp .not t x) (.bool false):=⟨ynb hx.h⟩
instance [hx:EvF n s x (.bool false)]:YF P n s (.unOp .not t x) (.bool true):=⟨ynb hx.h⟩
instance [hx:EvF n s x (.bool (decide p))]:YF P n s (.unOp .not t x) (.bool (decide (¬p))):=⟨ynd hx.h⟩
instance [ht:UnS P t e] [hx:EvF n s x (.slice A m_ c_)]:YF P n s (.call ⟨.builtin .len,#[x],#[t]⟩) (.int .i64 m_):=⟨yln ht.h hx.h⟩
instance [ht:UnT P t] [hx:EvF n s x (.string (bs s1))]:YF P n s (.call ⟨.builtin .len,#[x],#[t]⟩) (.int .i64 (aL s1:Int)):=⟨ylx ht.h hx.h⟩
variable {w w0:World}{Ds:List Nat}{bs_:List (Nat × Obj)}{T:TypeId}{fz:Nat × Nat}
instance [hF:FR w0 Ds bs_ w] [ha:AgF P t] [hx:EvF n s q (.pointer (some ⟨b,off,none⟩))] [hb:HsF bs_ b i (.cells vs.toArray T fz)] [hv:GlF vs off v]:YW P n s w (.load t q) v:=⟨ylu ha.h hx.h hF.F i hb.h (aS hv.h)⟩
instance [hF:FR w0 Ds bs_ w] [ha:AgT P t] [hs:SzF P t m] [hx:EvF n s q (V b)] [hb:HsF bs_ b i (.cells vs.toArray T fz)] [hl:LnF vs m]:YW P n s w (.load t q) (.agg vs.toArray):=⟨ylg ha.h hs.h (hx:=hx.h) hF.F i (hb:=hb.h) (hm:=hl.h)⟩
end
section
variable {ops:List Oper}{n j d:Nat}{s:Nat->Value}{op:Op}{ty:TypeId}{pos:String}{aft:Array Edge}{g:Option (Nat × Bool)}{b w:Bool}
def P4(h1:ops[j]? = some ⟨some d,op,ty,pos,aft,g⟩)(h2:ev n s (.tmp d)=.bool b)(dst:Option Nat)(op':Op)(ty':TypeId)(pos':String)(aft':Array Edge):Ka ops n s ⟨dst,op',ty',pos',aft',some (j,w)⟩=(b==w):=by
  simp only[Ka,h1,Option.bind_some,h2]
def KY(h1:ops[j]? = some ⟨some d,op,ty,pos,aft,g⟩)(h2:ev n s (.tmp d)=undef)(dst:Option Nat)(op':Op)(ty':TypeId)(pos':String)(aft':Array Edge):Ka ops n s ⟨dst,op',ty',pos',aft',some (j,w)⟩=false:=by
  simp only[Ka,h1,Option.bind_some,h2,undef]
instance : GdF ops n s none true:=⟨λ_ _ _ _ _=>rfl⟩
instance [h1:GlF ops j ⟨some d,op,ty,pos,aft,g⟩] [h2:EvF n s (.tmp d) undef]:GdF ops n s (some (j,w)) false:=⟨KY h1.h h2.h⟩
instance [h1:GlF ops j ⟨some d,op,ty,pos,aft,g⟩] [h2:EvF n s (.tmp d) (.bool true)]:GdF ops n s (some (j,true)) true:=⟨P4 h1.h h2.h⟩
instance [h1:GlF ops j ⟨some d,op,ty,pos,aft,g⟩] [h2:EvF n s (.tmp d) (.bool true)]:GdF ops n s (some (j,false)) false:=⟨P4 h1.h h2.h⟩
instance [h1:GlF ops j ⟨some d,op,ty,pos,aft,g⟩] [h2:EvF n s (.tmp d) (.bool false)]:GdF ops n s (some (j,true)) false:=⟨P4 h1.h h2.h⟩
instance [h1:GlF ops j ⟨some d,op,ty,pos,aft,g⟩] [h2:EvF n s (.tmp d) (.bool false)]:GdF ops n s (some (j,false)) true:=⟨P4 h1.h h2.h⟩
end
section
variable {P:Program}{R:Exit->Act->World->Prop}{n:Nat}{k k':Kt}{s:Nat->Value}{w w0:World}{ops rest:List Oper}{B:Prop}{m id i:Nat}{c x y:Code}{q q':Operand}{Ds:List Nat}{bs_ bs':List (Nat × Obj)}
variable {d:Nat}{dst:Option Nat}{op:Op}{ty ty':TypeId}{pos pos':String}{aft aft':Array Edge}{g:Option (Nat × Bool)}{v:Value}{zs:Lt}{C:World->Prop}{order:Ord}{l:Nat}{p:Prop}{_:Decidable p}{b:Bool}
instance : Rn 0 B B:=⟨λb=>b⟩
instance [h:Rn m (Cg P R n x (.seq y k) s w) B]:Rn (m+1) (Cg P R n (.seq x y) k s w) B:=⟨λb=>Wi (h.r b)⟩
instance [h:Rn m (Eg P R n .normal k s w) B]:Rn (m+1) (Cg P R n .skip k s w) B:=⟨λb=>Gw (h.r b)⟩
instance [h:Rn m (Eg P R n .normal k s w) B]:Rn (m+1) (Cg P R n (.label l) k s w) B:=⟨λb=>MQ (h.r b)⟩
instance [h:Rn m (Cg P R n c (.block id k) s w) B]:Rn (m+1) (Cg P R n (.block id c) k s w) B:=⟨λb=>Ju (h.r b)⟩
instance [hk:KoF k id k'] [h:Rn m (Eg P R n .normal k' s w) B]:Rn (m+1) (Cg P R n (.exit id) k s w) B:=⟨λb=>KN (Cr hk.h (h.r b))⟩
instance [h:Rn m (Og P R n ops k ops s w) B]:Rn (m+1) (Cg P R n (.region id ops.toArray false) k s w) B:=⟨λb=>Be (h.r b)⟩
instance (priority:=mid) [hd:Bq (Nat.ble n d) false] [hx:EvF n s (.tmp d) (.bool (decide p))]:Rn 1 (Cg P R n (.cond (.tmp d) x y) k s w) ((p->Cg P R n x k (Ic s d (.bool true)) w)/\(¬p->Cg P R n y k (Ic s d (.bool false)) w)):=⟨λh=>G5 hx.h (hd:=R6 hd.h) h.1 h.2⟩
instance [hc:EvF n s q (.bool true)] [h:Rn m (Cg P R n x k s w) B]:Rn (m+1) (Cg P R n (.cond q x y) k s w) B:=⟨λb=>L8 hc.h (h.r b)⟩
instance [hc:EvF n s q (.bool false)] [h:Rn m (Cg P R n y k s w) B]:Rn (m+1) (Cg P R n (.cond q x y) k s w) B:=⟨λb=>Zo hc.h (h.r b)⟩
instance [h:Rn m (Cg P R n y k s w) B]:Rn (m+1) (Eg P R n .normal (.seq y k) s w) B:=⟨λb=>Vh (h.r b)⟩
instance [h:Rn m (Eg P R n .normal k s w) B]:Rn (m+1) (Eg P R n .normal (.block id k) s w) B:=⟨λb=>Dy (h.r b)⟩
instance [h:Rn m (Eg P R n .normal k s w) B]:Rn (m+1) (Og P R n ops k [] s w) B:=⟨λb=>Fk (h.r b)⟩
instance [hg:GdF ops n s g true] [hy:YW P n s w op v] [h:Rn m (Og P R n ops k rest (Ic s d v) w) B]:Rn (m+1) (Og P R n ops k (⟨some d,op,ty,pos,aft,g⟩::rest) s w) B:=⟨λb=>RW hy.h (h.r b) (hg.h ..)⟩
instance [hg:GdF ops n s g true] [hy:YF P n s op v] [h:Rn m (Og P R n ops k rest (Ic s d v) w) B]:Rn (m+1) (Og P R n ops k (⟨some d,op,ty,pos,aft,g⟩::rest) s w) B:=⟨λb=>Zb hy.h (h.r b) (hg.h ..)⟩
instance [hg:GdF ops n s g false] [h:Rn m (Og P R n ops k rest (Ic s d undef) w) B]:Rn (m+1) (Og P R n ops k (⟨some d,op,ty,pos,aft,g⟩::rest) s w) B:=⟨λb=>VQ (h.r b) (hg.h ..)⟩
instance [hg:GdF ops n s g false] [h:Rn m (Og P R n ops k rest s w) B]:Rn (m+1) (Og P R n ops k (⟨none,op,ty,pos,aft,g⟩::rest) s w) B:=⟨λb=>o_offn (h.r b) (hg.h ..)⟩
instance [h:Rn m (Eg P R n .normal k s w) B]:Rn (m+1) (Dg P R n ops k zs .nil C s w) B:=⟨λb=>d_nil (h.r b)⟩
instance [h1:GlF ops i ⟨some d,op,ty,pos,aft,g⟩] [hg:GdF ops n s g true] [hy:YF P n s op v] [h:Rn m (Dg P R n ops k zs order C (Ic s d v) w) B]:Rn (m+1) (Dg P R n ops k zs (.free i order) C s w) B:=⟨λb=>CB h1.h hy.h (h.r b) (hg.h ..)⟩
instance [h1:GlF ops i ⟨some d,op,ty,pos,aft,g⟩] [hg:GdF ops n s g false] [h:Rn m (Dg P R n ops k zs order C (Ic s d undef) w) B]:Rn (m+1) (Dg P R n ops k zs (.free i order) C s w) B:=⟨λb=>f_off h1.h (h.r b) (hg.h ..)⟩
variable {t off a T z_:Nat}{l l' vs:List Value}{u:Value}{ii:Nat}{fz:Nat × Nat}{b':Nat}
instance [hF:FR w0 Ds bs_ w] [hs:SzF P t 1] [hg:GdF ops n s g true] [hx:EvF n s q (.pointer (some ⟨b',off,none⟩))] [hy:EvF n s q' v] [ho:OnF v] [hb:HsF bs_ b' i (.cells l.toArray T (0,0))] [hc:AtF l off u v l'] [hu:UbF bs_ b' (.cells l'.toArray T (0,0)) ii (.cells l.toArray T (0,0)) bs']:Rn 1 (Og P R n ops k (⟨none,.store t q q',ty,pos,aft,g⟩::rest) s w) (∀w',FR w0 Ds bs' w'->Same [b'] w w'->Og P R n ops k rest s w'):=⟨λf=>GZ v hF hs.h hx.h hy.h hu.h hc.h f ho.h ho.o (hg.h ..)⟩
instance [hF:FR w0 Ds bs_ w] [hs:SzF P t a] [hg:GdF ops n s g true] [hx:EvF n s q (.pointer (some ⟨b',0,none⟩))] [hy:EvF n s q' (.agg l'.toArray)] [hm:LnF l' a] [ho:OnL l'] [hb:HsF bs_ b' i (.cells l.toArray T (0,0))] [hl:LnF l a] [hu:UbF bs_ b' (.cells l'.toArray T (0,0)) ii (.cells l.toArray T (0,0)) bs']:Rn 1 (Og P R n ops k (⟨none,.store t q q',ty,pos,aft,g⟩::rest) s w) (∀w',FR w0 Ds bs' w'->Same [b'] w w'->Og P R n ops k rest s w'):=⟨λf=>o_sg hF hs.h hx.h hy.h hu.h f hm.h (by rw[hl.h,hm.h]) ho.h (hg.h ..)⟩
instance [hF:FR w0 Ds bs_ w] [hg:GdF ops n s g true] [hy:EvF n s q v] [ho:OnF v]:Rn 1 (Og P R n ops k (⟨some d,.box t q,ty,pos,aft,g⟩::rest) s w) (∀b w',b=w.heap.size->FR w0 Ds ((b,.cells #[v] t)::bs_) w'->Same [] w w'->Og P R n ops k rest (Ic s d (V b)) w'):=⟨λf=>o_bx v hF hy.h f ho.h (hg.h ..)⟩
instance [hF:FR w0 Ds bs_ w] [hg:GdF ops n s g true] [hy:EvF n s q (.agg vs.toArray)]:Rn 1 (Og P R n ops k (⟨some d,.box t q,ty,pos,aft,g⟩::rest) s w) (∀b w',b=w.heap.size->FR w0 Ds ((b,.cells vs.toArray t)::bs_) w'->Same [] w w'->Og P R n ops k rest (Ic s d (V b)) w'):=⟨λf=>o_bg hF hy.h f (hg.h ..)⟩
instance {a:Nat} [hF:FR w0 Ds bs_ w] [hz:ZvF P t a] [hs:SzF P t a] [hd:Bq (Nat.ble n d) false] [hy:EvF n (Ic s d (.pointer (some ⟨w.heap.size,0,none⟩))) q (.agg vs.toArray)] [hm:LnF vs a] [ho:OnL vs]:Rn 1 (Og P R n ops k (⟨some d,.alloc t,ty,pos,aft,none⟩::⟨none,.store t (.tmp d) q,ty',pos',aft',none⟩::rest) s w) (∀b w',b=w.heap.size->FR w0 Ds ((b,.cells vs.toArray t)::bs_) w'->Same [] w w'->Og P R n ops k rest (Ic s d (V b)) w'):=⟨λf=>by
  obtain⟨z,hz1,hz2⟩:=hz.h;exact X2 hF hz1 hs.h hy.h f hm.h (by rw[hz2,hm.h]) ho.h (R6 hd.h)⟩
instance [hF:FR w0 Ds bs_ w] [hz:ZvF P t 1] [hs:SzF P t 1] [hd:Bq (Nat.ble n d) false] [hy:EvF n (Ic s d (.pointer (some ⟨w.heap.size,0,none⟩))) q v] [ho:OnF v]:Rn 1 (Og P R n ops k (⟨some d,.alloc t,ty,pos,aft,none⟩::⟨none,.store t (.tmp d) q,ty',pos',aft',none⟩::rest) s w) (∀b w',b=w.heap.size->FR w0 Ds ((b,.cells #[v] t)::bs_) w'->Same [] w w'->Og P R n ops k rest (Ic s d (V b)) w'):=⟨λf=>by
  obtain⟨z,hz1,hz2⟩:=hz.h;exact o_ly v hF hz1 hs.h hy.h f hz2 ho.h ho.o (R6 hd.h)⟩
end
class RsF (P:Program) (n:Nat) (s:Nat->Value) (w:World) (rs:Array ResultVar) (v:outParam Value):Prop where h:∀fn:Func,fn.results=rs->(results fn (Bi n s).tmps).run P w=.ok v w
class ArF (args:Array Value) (n:Nat) (l:outParam (List (Nat × Value))):Prop where
  z:args.size<=n
  h:∀i,args.getD i undef=Gh (λ_=>undef) l i
section
variable {n:Nat}{a b c d e:Value}
instance : ArF #[] n []:=⟨Da,args_0⟩
instance [h:Bq (Nat.ble 1 n) true]:ArF #[a] n [(0,a)]:=⟨Nat.le_of_ble_eq_true h.h,BN a⟩
instance [h:Bq (Nat.ble 2 n) true]:ArF #[a,b] n [(0,a),(1,b)]:=⟨Nat.le_of_ble_eq_true h.h,YK a b⟩
instance [h:Bq (Nat.ble 3 n) true]:ArF #[a,b,c] n [(0,a),(1,b),(2,c)]:=⟨Nat.le_of_ble_eq_true h.h,KZ a b c⟩
instance [h:Bq (Nat.ble 4 n) true]:ArF #[a,b,c,d] n [(0,a),(1,b),(2,c),(3,d)]:=⟨Nat.le_of_ble_eq_true h.h,args_4 a b c d⟩
instance [h:Bq (Nat.ble 5 n) true]:ArF #[a,b,c,d,e] n [(0,a),(1,b),(2,c),(3,d),(4,e)]:=⟨Nat.le_of_ble_eq_true h.h,args_5 a b c d e⟩
end
def RtR(P:Program)(rs:Array ResultVar)(Q:Value->World->Prop):Exit->Act->World->Prop:=λe a w=>∀fn:Func,fn.results=rs->bodyPost P fn (Za Q) e a w
section
variable {P:Program}{fn:Func}{f:FuncId}{n:Nat}{c:Code}{args:Array Value}{rl:List ResultVar}{Q:Value->World->Prop}{l:List (Nat × Value)}{w:World}
def Lb(hf:P.funcs[f]? = some fn)(hn:fn.ntmps=n)(hb:fn.body=some c)(hr:fn.results=rl.toArray)[ha:ArF args n l](h:Cg P (RtR P rl.toArray Q) n c .done (Gh (λ_=>undef) l) w):Calls P f args w (Za Q):=by
 refine Yl hf hb hn ha.z ha.h ?_;unfold Cg at h ⊢;exact Code.wp_mono (λe a w q=>q fn hr) h
def Ea(hf:P.funcs[f]? = some fn)(hn:fn.ntmps=n)[ArF args n l](h:FR w [] [] w->Cg P (RtR P rl.toArray Q) n c .done (Gh (λ_=>undef) l) w)(hb:fn.body=some c:=by rfl)(hr:fn.results=rl.toArray:=by rfl):Calls P f args w (Za Q):=Lb hf hn hb hr (h<|FR.start w [])
end
section
variable {P:Program}{rs:Array ResultVar}{Q:Value->World->Prop}{n:Nat}{k:Kt}{s:Nat->Value}{w w0:World}{t u r b m i T T':Nat}{v x y:Value}{l:List Value}{Ds:List Nat}{bs_:List (Nat × Obj)}{fz:Nat × Nat}
instance : RsF P n s w #[] (.tuple #[]):=⟨λ_ h=>OP h⟩
instance [h1:EvF n s (.tmp t) v]:RsF P n s w #[.tmp t] v:=⟨λ_ h=>JP h h1.h⟩
instance [h1:EvF n s (.tmp t) v] [h2:EvF n s (.tmp u) x]:RsF P n s w #[.tmp t,.tmp u] (.tuple #[v,x]):=⟨λ_ h=>UZ h h1.h h2.h⟩
instance [h1:EvF n s (.tmp t) v] [h2:EvF n s (.tmp u) x] [h3:EvF n s (.tmp r) y]:RsF P n s w #[.tmp t,.tmp u,.tmp r] (.tuple #[v,x,y]):=⟨λ_ h=>res_3 h h1.h h2.h h3.h⟩
instance [hF:FR w0 Ds bs_ w] [h1:EvF n s (.tmp t) (V b)] [hb:HsF bs_ b i (.cells l.toArray T' fz)] [ha:AgT P T] [hs:SzF P T m] [hl:LnF l m]:RsF P n s w #[.cell t T] (.agg l.toArray):=⟨λ_ h=>HQ h h1.h ha.h hs.h hl.h (hF.cellsAll i hb.h)⟩
instance [hF:FR w0 Ds bs_ w] [h1:EvF n s (.tmp t) (V b)] [hb:HsF bs_ b i (.cells l.toArray T' fz)] [ha:AgT P T] [hs:SzF P T m] [hl:LnF l m] [h2:EvF n s (.tmp u) v]:RsF P n s w #[.cell t T,.tmp u] (.tuple #[.agg l.toArray,v]):=⟨λ_ h=>res_ct h h1.h ha.h hs.h hl.h (hF.cellsAll i hb.h) h2.h⟩
instance [h:RsF P n s w rs v]:Rn 1 (Cg P (RtR P rs Q) n .ret k s w) (Q v w):=⟨λq=>Rf (Yd λfn hr=>Nc (h.h fn hr) q)⟩
instance [h:RsF P n s w rs v]:Rn 1 (Eg P (RtR P rs Q) n .normal .done s w) (Q v w):=⟨λq=>BL λfn hr=>XF (h.h fn hr) q⟩
end
def Wf{P:Program}{R:Exit->Act->World->Prop}{n:Nat}{c:Code}{k:Kt}{s:Nat->Value}{w:World}{l:List (Nat × Value)}{B:Prop}(hs:AllEq s l)(m:Nat)[i:Rn m (Cg P R n c k (Gh s l) w) B](b:B):Cg P R n c k s w:=by rw[hs.eq];exact i.r b
def Aj{P:Program}{R:Exit->Act->World->Prop}{n:Nat}{e:Exit}{k:Kt}{s:Nat->Value}{w:World}{l:List (Nat × Value)}{B:Prop}(hs:AllEq s l)(m:Nat)[i:Rn m (Eg P R n e k (Gh s l) w) B](b:B):Eg P R n e k s w:=by rw[hs.eq];exact i.r b
section
variable {P:Program}{R:Exit->Act->World->Prop}{n:Nat}{k:Kt}{s:Nat->Value}{w:World}{ops rest:List Oper}{d j i:Nat}{dst:Option Nat}{op op':Op}{ty ty':TypeId}{pos pos':String}{aft aft':Array Edge}{g:Option (Nat × Bool)}{p:Prop}{_:Decidable p}{b wt:Bool}{x y:Code}{zs:Lt}{C:World->Prop}{order:Ord}
instance (priority:=low) [hd:Bq (Nat.ble n d) false] [hx:EvF n s (.tmp d) (.bool b)]:Rn 1 (Cg P R n (.cond (.tmp d) x y) k s w) ((b=true->Cg P R n x k (Ic s d (.bool true)) w)/\(b=false->Cg P R n y k (Ic s d (.bool false)) w)):=⟨λh=>c_sb hx.h (R6 hd.h) h.1 h.2⟩
instance (priority:=low) [h1:GlF ops j ⟨some d,op',ty',pos',aft',g⟩] [hx:SlF s d (.bool b)]:Rn 1 (Og P R n ops k (⟨dst,op,ty,pos,aft,some (j,wt)⟩::rest) s w) ((b=true->Og P R n ops k (⟨dst,op,ty,pos,aft,some (j,wt)⟩::rest) (Ic s d (.bool true)) w)/\(b=false->Og P R n ops k (⟨dst,op,ty,pos,aft,some (j,wt)⟩::rest) (Ic s d (.bool false)) w)):=⟨λh=>Z3 hx.h h.1 h.2⟩
instance (priority:=mid) [h1:GlF ops j ⟨some d,op',ty',pos',aft',g⟩] [hx:SlF s d (.bool (decide p))]:Rn 1 (Og P R n ops k (⟨dst,op,ty,pos,aft,some (j,wt)⟩::rest) s w) ((p->Og P R n ops k (⟨dst,op,ty,pos,aft,some (j,wt)⟩::rest) (Ic s d (.bool true)) w)/\(¬p->Og P R n ops k (⟨dst,op,ty,pos,aft,some (j,wt)⟩::rest) (Ic s d (.bool false)) w)):=⟨λh=>GJ hx.h h.1 h.2⟩
instance (priority:=low) [h0:GlF ops i ⟨dst,op,ty,pos,aft,some (j,wt)⟩] [h1:GlF ops j ⟨some d,op',ty',pos',aft',g⟩] [hx:SlF s d (.bool b)]:Rn 1 (Dg P R n ops k zs (.free i order) C s w) ((b=true->Dg P R n ops k zs (.free i order) C (Ic s d (.bool true)) w)/\(b=false->Dg P R n ops k zs (.free i order) C (Ic s d (.bool false)) w)):=⟨λh=>JQ hx.h h.1 h.2⟩
instance (priority:=mid) [h0:GlF ops i ⟨dst,op,ty,pos,aft,some (j,wt)⟩] [h1:GlF ops j ⟨some d,op',ty',pos',aft',g⟩] [hx:SlF s d (.bool (decide p))]:Rn 1 (Dg P R n ops k zs (.free i order) C s w) ((p->Dg P R n ops k zs (.free i order) C (Ic s d (.bool true)) w)/\(¬p->Dg P R n ops k zs (.free i order) C (Ic s d (.bool false)) w)):=⟨λh=>JY hx.h h.1 h.2⟩
end
def SlB(e m:Nat)(A:Option Addr)(n c:Nat)(xs:List Value)(sb:List (Nat × Obj)):Prop :=
  (aL xs)=n*m/\((n=0/\c=0/\sb=[]) \/
    ∃g cur,A=some ⟨g,0,none⟩/\sb=[(g,.cells cur e)]/\n<=c/\c<=maxLen/\cur.size=c*m/\cur.toList.take (n*m)=xs)
def SlB.nil(e m:Nat):SlB e m none 0 0 [] []:=⟨Da,.inl ⟨rfl,rfl,rfl⟩⟩
def SlB.zero(e m:Nat)(A:Option Addr):SlB e m A 0 0 [] []:=⟨Da,.inl ⟨rfl,rfl,rfl⟩⟩
def SlB.len{e m n c:Nat}{A:Option Addr}{sb:List (Nat × Obj)}(h:SlB e m A n c xs sb):aL xs=n*m:=h.1
theorem SlB.cap{e m n c:Nat}{A:Option Addr}{sb:List (Nat × Obj)}(h:SlB e m A n c xs sb):n<=c/\c<=maxLen:=by
  rcases h.2 with ⟨rfl,rfl,-⟩|⟨g,cur,-,-,h1,h2,-⟩
  ·grind
  grind
section
variable {P:Program}{w0 w:World}{Ds:List Nat}{pre post sb bs:List (Nat × Obj)}
theorem FR.memHeap(h:FR w0 Ds bs w){p:Nat × Obj}(hp:p∈bs):w.heap[p.1]? = some p.2:=(h.own p hp).1
theorem SlB.cells{e m n c:Nat}{A:Option Addr}(h:SlB e m A n c xs sb)(hF:FR w0 Ds (pre++(sb++post)) w) :
    ∀ad,A=some ad->∀j u,xs[j]? = some u->w.cell? (ad.add j)=some u:=by
  rintro ad rfl j u hu;rcases h.2 with ⟨hn,-⟩|⟨g,cur,hA,rfl,-,-,-,htake⟩
  ·have := h.1
   grind
  injection hA with hA
  subst hA;have hg:=hF.memHeap (p:=(g,.cells cur e)) Da;rw[Te,Nat.zero_add,cell_of_row w g j cur e (0,0) hg];grind
theorem FR.insert{w':World}{o:Obj}(h:FR w0 Ds (pre++(sb++post)) w)(hs:Same [] w w')(hb:w'.heap[w.heap.size]? = some o):FR w0 Ds (pre++([(w.heap.size,o)]++post)) w':=by
  have hlt:∀p∈pre++(sb++post),p.1<w.heap.size:=λp hp=>Pa<|h.memHeap hp;refine⟨h.same.trans<|hs.mono Da,λp hp=>?_,?_⟩
  ·simp only[mQ, pQ]at hp
   rcases hp with hp|rfl|hp
   ·have h1 := h.own p bJ
    exact⟨(hs.block p.1 (Pa h1.1) Da).trans h1.1,h1.2⟩
   ·exact⟨hb,.inl h.same.size⟩
   have h1 := h.own p bJ;exact⟨(hs.block p.1 (Pa h1.1) Da).trans h1.1,h1.2⟩
  have hd := h.desc;rw[List.pairwise_append]at hd ⊢;obtain⟨h1,h2,h3⟩:=hd;refine⟨h1,?_,?_⟩
  ·rw[List.pairwise_append]at h2 ⊢
   refine⟨Da,h2.2.1,?_⟩;intro p hp q hq;simp only[pQ]at hp;subst hp;have:=hlt q bD;show q.1≠w.heap.size;omega
  intro p hp q hq;simp only[mQ,pQ]at hq;rcases hq with rfl|hq
  ·have := hlt p bJ
   show w.heap.size≠p.1;omega
  exact h3 p hp q bD
theorem FR.changeMid{w':World}{g:Nat}{o o':Obj}(h:FR w0 Ds (pre++([(g,o)]++post)) w)(hs:Same [g] w w')(hn:w'.heap[g]? = some o'):FR w0 Ds (pre++([(g,o')]++post)) w':=by
  have hi:(pre++([(g,o)]++post))[aL pre]? = some (g,o):=Da
  have:=h.change (aL pre) hi hs hn;grind
theorem Qv{t ty e m bytes:Nat}{i:TypeInfo}{z:Value}{A:Option Addr}{n c k:Nat}
    (ht:P.underlying t=some (.slice e)) (hi:P.info? e=some i) (hz:i.zero=some z) (hsize:i.size=m) (hby:i.bytes=bytes) (hzs:z.cells.size=m)
    (hF:FR w0 Ds (pre++(sb++post)) w) (hS:SlB e m A n c xs sb)
    (hl:aL news=k*m) (hnews:k≠0->∃a,A2=some a/\∀j u,news[j]? = some u->w.cell? (a.add j)=some u) (h1:∀u∈news,u.oneCell'=true)
    (h63:n+k<=maxLen) (hbytes:(n+k)*bytes<=140737488355328) :
    ∃A' c' sb' w', (Builtin.append_ #[t, t] ty #[.slice A n c, .slice A2 k c2]).run P w = .ok (.slice A' (n + k) c') w' /\ SlB e m A' (n + k) c' (xs ++ news) sb' /\ FR w0 Ds (pre ++ (sb' ++ post)) w' /\
      Same (sb.map (·.1)) w w'/\(∀p∈sb',p.1∈sb.map (·.1)\/w.heap.size<=p.1):=by
  subst hsize;subst hby;by_cases hk:k=0
  ·subst hk
   have hn:news=[]:=qK
   subst hn;refine⟨A,c,sb,w,?_,by simpa using hS,hF,Same.refl _ _,λp hp=>.inl<|List.mem_map_of_mem hp⟩;have hnc:=hS.cap.1;have hf:(Builtin.firstCells i.size 0<|.slice A2 0 c2).run P w=.ok #[] w:=by cases A2 <;> simp[Builtin.firstCells,loadCells,loadCellsFrom]
   cases A <;> simp[Builtin.append_,run_underlying ht,sizeOf,typeInfo,hi,Builtin.lenOf,hnc,hf,storeCells]
  obtain⟨a,rfl,hnw⟩:=hnews hk;clear hnews;have hlen:aL (xs++news)=(n+k)*i.size:=by rw[dQ,hS.1,hl,Nat.add_mul]
  simp only[maxLen]at h63;have grown:∀(old:Nat),old<n+k ->
      SlB e i.size (some ⟨w.heap.size,0,none⟩) (n+k) (grownCap w (n+k) old e) (xs++news) [(w.heap.size,.cells (xs.toArray++news.toArray++Builtin.zeroCells z.cells (grownCap w (n+k) old e-(n+k))) e)] /\
      FR w0 Ds (pre++([(w.heap.size,.cells (xs.toArray++news.toArray++Builtin.zeroCells z.cells (grownCap w (n+k) old e-(n+k))) e)]++post)) (w.drew.alloc<|.cells (xs.toArray++news.toArray++Builtin.zeroCells z.cells (grownCap w (n+k) old e-(n+k))) e) /\
      Same (sb.map (·.1)) w (w.drew.alloc<|.cells (xs.toArray++news.toArray++Builtin.zeroCells z.cells (grownCap w (n+k) old e-(n+k))) e):=by
    intro old ho;have hge:=grownCap_ge w (n+k) old e;have hcm:grownCap w (n+k) old e<=maxLen:=grownCap_le_maxLen w (n+k) old e qN;have hsm:Same [] w (w.drew.alloc<|.cells (xs.toArray++news.toArray++Builtin.zeroCells z.cells (grownCap w (n+k) old e-(n+k))) e):=(Same.drew w).trans (Same.alloc w.drew _);refine⟨⟨hlen,.inr ⟨w.heap.size,_,O,O,hge,hcm,?_,?_⟩⟩,hF.insert hsm<|heap_alloc_new w.drew _,hsm.mono Da⟩
    ·simp only[Array.size_append, List.size_toArray, size_zeroCells, hzs, hS.1, hl, <- Nat.add_mul]
     congr 1
     omega
    simp only[Array.toList_append, sQ];rw[<-sQ,<-hlen];exact List.take_left
  rcases hS.2 with ⟨rfl,rfl,rfl⟩|⟨g,cur,rfl,rfl,hnc,hcm,hcs,htake⟩
  ·have hx : xs = [] := by simp_all
   subst hx;have hgr:=grown 0 Aa;cases A with
   | none =>
     have hr:=run_append_nil (P:=P) w t ty e i z ht hi hz a k c2 news hl hnw Aa Aa (by have hb:=hbytes;simp only[Nat.zero_add]at hb;omega);grind
   | some a0 =>
     have hr:=run_append_grow (P:=P) w t ty e i z ht hi hz a0 0 0 [] Da (λj u hu=>by cases hu) a k c2 news hl hnw Aa Aa<|growslice_fits Aa hbytes;grind
  have hg : w.heap[g]? = some (.cells cur e) := hF.memHeap (p := (g, .cells cur e)) Da;by_cases hroom:n+k<=c
  ·have hfit : n*i.size + (aL news) <= cur.size := by rw[hl, hcs, <- Nat.add_mul];exact Nat.mul_le_mul_right _ hroom
   have hr:=run_append_room (P:=P) w t ty e i ht hi g n c cur hg a k c2 news hl hnw h1 hroom hfit;have hsm:Same [g] w (w.setRow g (cur.toList.take (n*i.size)++news++cur.toList.drop (n*i.size+aL news)).toArray) :=
     ⟨rfl,rfl,rfl,by simp[World.setRow],λb _ hb=>setRow_other w g b _ (aS hb)⟩
   refine⟨_,_,[(g,.cells (cur.toList.take (n*i.size)++news++cur.toList.drop (n*i.size+aL news)).toArray e)],_,hr,⟨hlen,.inr ⟨g,_,O,O,hroom,hcm,?_,?_⟩⟩,hF.changeMid hsm<|setRow_heap w g cur _ e _ hg,by simpa using hsm,λp hp=>.inl (by simp at hp ⊢;exact yQ Prod.fst hp)⟩
   ·grind
   grind
  have holds : ∀j u, xs[j]? = some u -> w.cell? ((⟨g, 0, none⟩ : Addr).add j) = some u := hS.cells hF _ rfl;have hr:=run_append_grow (P:=P) w t ty e i z ht hi hz ⟨g,0,none⟩ n c xs hS.1 holds a k c2 news hl hnw Aa Aa<|growslice_fits Aa hbytes;grind
end
def Hp(w:World)(x:Nat):Prop:=∃cs T,w.heap[x]? = some (.cells cs T (0,0))
def New(w0:World)(ids:List Nat)(w:World)(x:Nat):Prop:=w0.heap.size<=x/\x<w.heap.size/\x∉ids/\Hp w x
def RX(w0:World)(ids:List Nat)(w:World)(ds:List D)(cs:List Value):Prop:=RepL (New w0 ids w) w ds cs
def Btw(w w':World)(x:Nat):Prop:=w.heap.size<=x/\x<w'.heap.size/\Hp w' x
section
variable {w0 w w':World}{ids ids' E:List Nat}{ds es:List D}{cs ct:List Value}
def RX.nil:RX w0 ids w [] []:=RepL.nil_mk
def RX.step(h:RX w0 ids w ds cs)(hs:Same E w w')(he:∀b∈E,b∈ids)(hi:∀x∈ids',x∈ids\/w.heap.size<=x):RX w0 ids' w' ds cs:=by
  have h1:RepL (New w0 ids w) w' ds cs:=RepL.same h hs λb hb hn=>hn.2.2.1<|he b hb;refine h1.weaken λb hb _=>⟨hb.1,Nat.lt_of_lt_of_le hb.2.1 hs.size,λhm=>?_,?_⟩
  ·rcases hi b hm with h2|h2
   ·exact hb.2.2.1 h2
   have := hb.2.1;omega
  obtain⟨cs, T, hh⟩ := hb.2.2.2;exact⟨cs,T,(hs.block b hb.2.1 λhm=>hb.2.2.1<|he b hm).trans hh⟩
def RX.ext(h:RX w0 ids w ds cs)(hs:Same [] w w'):RX w0 ids w' ds cs:=h.step hs Da (λx hx=>.inl hx)
def RX.store(h:RX w0 ids w ds cs)(hs:Same E w w')(he:∀b∈E,b∈ids):RX w0 ids w' ds cs:=h.step hs he (λ_ hx=>.inl hx)
def RX.alloc{b:Nat}(h:RX w0 ids w ds cs)(hs:Same [] w w')(hb:b=w.heap.size):RX w0 (b::ids) w' ds cs :=
  h.step hs Da (λx hx=>by rcases oQ.1 hx with rfl|hx;exact .inr Aa;exact .inl hx)
def RX.sub(h:RX w0 ids w ds cs)(hi:∀x∈ids',x∈ids):RX w0 ids' w ds cs:=h.step (Same.refl [] w) Da (λx hx=>.inl<|hi x hx)
def RX.append(h:RX w0 ids w ds cs)(k:RX w0 ids w es ct):RX w0 ids w (ds++es) (cs++ct):=RepL.append h k
def RX.one{d:D}(h:Rep (New w0 ids w) w d cs):RX w0 ids w [d] cs:=by
  have:=RepL.cons_mk h RepL.nil_mk;rw[qQ]at this;exact this
theorem RX.rep{d:D}(h:RX w0 ids w [d] cs):Rep (New w0 ids w) w d cs:=by
  obtain⟨c1,c2,rfl,h1,h2⟩:=RepL.cons_inv h;grind [RepL.nil_inv]
def RX.made{d:D}(hw:w0.heap.size<=w.heap.size)(hi:∀x∈ids,x<w.heap.size)(h:Rep (Btw w w') w' d cs):RX w0 ids w' [d] cs :=
  .one (h.weaken λb hb _=>⟨fQ hw hb.1,hb.2.1,λhm=>by have:=hi b hm;have:=hb.1;omega,hb.2.2⟩)
def RX.doneL(h:RX w0 ids w ds cs):RepL (Btw w0 w) w ds cs:=RepL.weaken (λ_ hb _=>⟨hb.1,hb.2.1,hb.2.2.2⟩) h
def RX.done{d:D}(h:RX w0 ids w [d] cs):Rep (Btw w0 w) w d cs:=h.rep.weaken λ_ hb _=>⟨hb.1,hb.2.1,hb.2.2.2⟩
def RX.plain(h:∀S,RepL S w ds cs):RX w0 ids w ds cs:=h _
def Btw.mono{w1:World}(hw:w0.heap.size<=w1.heap.size){x:Nat}(h:Btw w1 w x):Btw w0 w x:=⟨fQ hw h.1,h.2⟩
def Btw.ext{x:Nat}(h:Btw w0 w x)(hs:Same [] w w'):Btw w0 w' x:=⟨h.1,Nat.lt_of_lt_of_le h.2.1 hs.size,by obtain⟨cs,T,hh⟩:=h.2.2;exact⟨cs,T,(hs.block x h.2.1 Da).trans hh⟩⟩
theorem SlB.repOf{e m n c:Nat}{A:Option Addr}{sb:List (Nat × Obj)}(h:SlB e m A n c xs sb)(hb:∀p∈sb,w.heap[p.1]? = some p.2/\S p.1)(hr:RepL S w ds xs)(hn:aL ds=n) :
    Rep S w (.slice ds) [.slice A n c]:=by
  refine Rep.slice_mk hn.symm h.cap.1 h.cap.2 λhne=>?_;rcases h.2 with ⟨rfl,-⟩|⟨g,cur,rfl,rfl,h1,h2,h3,h4⟩
  ·grind
  have hg := hb (g, .cells cur e) Da;refine⟨_,O,xs,λi hi=>⟨?_,hg.2⟩,hr⟩;rw[Te,Nat.zero_add,cell_of_row w g i cur e (0,0) hg.1];grind
theorem SlB.rep{e m n c:Nat}{A:Option Addr}{pre post sb:List (Nat × Obj)}(h:SlB e m A n c xs sb)(hF:FR w0 [] (pre++(sb++post)) w)(hr:RX w0 ids w ds xs)(hn:aL ds=n) :
    Rep (Btw w0 w) w (.slice ds) [.slice A n c]:=by
  refine h.repOf (λp hp=>?_) hr.doneL hn;have h1:=hF.own p bJ;have h2:∃cur,p=(p.1,.cells cur e):=by
    rcases h.2 with ⟨-,-,rfl⟩|⟨g,cur,-,rfl,-⟩
    ·cases hp
    grind
  obtain⟨cur,h2⟩:=h2;refine⟨h1.1,?_,Pa h1.1,?_⟩
  ·rcases h1.2 with h3|h3
   ·exact h3
   cases h3
  rw[h2]at h1;exact⟨cur,e,h1.1⟩
theorem FR.addseg{Ds:List Nat}{bs sb:List (Nat × Obj)}(h:FR w0 Ds bs w)(hb:∀p∈sb,w.heap[p.1]? = some p.2/\w0.heap.size<=p.1/\∀q∈bs,q.1≠p.1)(hd:sb.Pairwise (λp q=>q.1≠p.1)):FR w0 Ds (bs++(sb++[])) w:=by
  rw[qQ];refine⟨h.same,λp hp=>?_,?_⟩
  ·rcases mQ.1 hp with hp|hp
   ·exact h.own p hp
   grind
  refine List.pairwise_append.2 ⟨h.desc, hd, λp hp q hq => ?_⟩;grind
theorem FR.extseg{w':World}{bs sb:List (Nat × Obj)}(h:FR w0 [] bs w)(hs:Same [] w w')(hb:∀p∈sb,w'.heap[p.1]? = some p.2/\w.heap.size<=p.1)(hd:sb.Pairwise (λp q=>q.1≠p.1)):FR w0 [] (bs++(sb++[])) w' :=
  (h.ext hs).addseg (λp hp=>⟨(hb p hp).1,fQ h.same.size (hb p hp).2,λq hq=>by have:=Pa (h.own q hq).1;have:=(hb p hp).2;omega⟩) hd
theorem FR.cons_ext{Ds:List Nat}{w':World}{bs:List (Nat × Obj)}{b:Nat}{o:Obj}(h:FR w0 Ds bs w)(hs:Same [] w w')(hb:w'.heap[b]? = some o)(hge:w.heap.size<=b):FR w0 Ds ((b,o)::bs) w':=by
  have h1:=h.ext hs;refine⟨h1.same,λp hp=>?_,List.pairwise_cons.2 ⟨λq hq=>?_,h.desc⟩⟩
  ·rcases oQ.1 hp with rfl|hp
   ·exact⟨hb,.inl<|fQ h.same.size hge⟩
   exact h1.own p hp
  have := Pa (h.own q hq).1;grind
def Old(S:Nat->Prop)(w0:World)(b:Nat):Prop:=S b/\b<w0.heap.size
def Rep.old{d:D}{cs:List Value}(h:Rep S w0 d cs):Rep (Old S w0) w0 d cs:=h.weaken λ_ h1 h2=>⟨h1,h2⟩
def Rep.back{d:D}{cs:List Value}(h:Rep (Old S w0) w d cs)(hs:Same [] w0 w):Rep (Old S w0) w0 d cs:=h.keep λb hb _=>(hs.block b hb.2 Da).symm
def SlB.pw{e m n c:Nat}{A:Option Addr}{sb:List (Nat × Obj)}(h:SlB e m A n c xs sb):sb.Pairwise (λp q=>q.1≠p.1):=by rcases h.2 with ⟨-,-,rfl⟩|⟨g,cur,-,rfl,-⟩ <;> simp
end
section
variable {P:Program}{R:Exit->Act->World->Prop}{n:Nat}{kt:Kt}{s:Nat->Value}{w:World}{ops rest:List Oper}
variable {d:Nat}{ty:TypeId}{pos:String}{aft:Array Edge}{g:Option (Nat × Bool)}
variable {w0:World}{Ds:List Nat}{sb:List (Nat × Obj)}
def Fq{ρ:Operand->Value}{dst:Option Nat}{x y:Operand}{t:TypeId}{u v:Value}{r:Value}{w':World}(hx:ρ x=u)(hy:ρ y=v)(h:(Builtin.append_ #[t,t] ty #[u,v]).run P w=.ok r w') :
    (execOp ρ ⟨dst,.call ⟨.builtin .append,#[x,y],#[t,t]⟩,ty,pos,aft,g⟩).run P w=.ok (.value r) w':=by simp[execOp,resolve,invoke,builtin,hx,hy,h]
structure Elems (P:Program) (t e m bytes:Nat):Prop where
  ht:P.underlying t=some (.slice e)
  info:∃(i:TypeInfo)(z:Value),P.info? e=some i/\i.zero=some z/\i.size=m/\i.bytes=bytes/\z.cells.size=m
theorem Elems.of{t e m bytes:Nat}(z:Value)(ht:P.underlying t=some (.slice e))(hi:(P.info? e).map (λi=>(i.zero,i.size,i.bytes))=some (some z,m,bytes))(hz:z.cells.size=m):Elems P t e m bytes:=by
  refine⟨ht,?_⟩;cases h:P.info? e with
  | none=>grind
  | some i=>grind
def Vk(pre post:List (Nat × Obj)){x y:Operand}{t e m bytes:Nat}{A:Option Addr}{len c k:Nat}(hE:Elems P t e m bytes)
    (hF:FR w0 Ds (pre++(sb++post)) w) (hS:SlB e m A len c xs sb) (hx:ev n s x=.slice A len c) (hy:ev n s y=.slice A2 k c2)
    (hl:aL news=k*m) (hnews:k≠0->∃a,A2=some a/\∀j u,news[j]? = some u->w.cell? (a.add j)=some u) (h1:∀u∈news,u.oneCell'=true)
    (h63:len+k<=maxLen)   (hlen:len+k=len') (hys:xs++news=ys) (hbytes:(len+k)*bytes<=140737488355328)
    (h:∀A' c' sb' w',SlB e m A' len' c' ys sb'->FR w0 Ds (pre++(sb'++post)) w'->Same (sb.map (·.1)) w w'->(∀p∈sb',p.1∈sb.map (·.1)\/w.heap.size<=p.1)->Og P R n ops kt rest (Ic s d (.slice A' len' c')) w')
    (hw:Ka ops n s ⟨some d,.call ⟨.builtin .append,#[x,y],#[t,t]⟩,ty,pos,aft,g⟩=true:=by rfl):Og P R n ops kt (⟨some d,.call ⟨.builtin .append,#[x,y],#[t,t]⟩,ty,pos,aft,g⟩::rest) s w:=by
  subst hlen hys;obtain⟨i,z,hi,hz,h2,h3,h4⟩:=hE.info;obtain⟨A',c',sb',w',hr,hS',hF',hs,hn⟩:=Qv (ty:=ty) (c2:=c2) hE.ht hi hz h2 h3 h4 hF hS hl hnews h1 h63 hbytes;exact Ba (Fq hx hy hr) (h A' c' sb' w' hS' hF' hs hn) hw
def Yk(pre post:List (Nat × Obj)){C:World->Prop}{order:Ord}{zs:Lt}{i:Nat}{x y:Operand}{t e m bytes:Nat}{A:Option Addr}{len c k:Nat}
    (hi:ops[i]? = some ⟨some d,.call ⟨.builtin .append,#[x,y],#[t,t]⟩,ty,pos,aft,g⟩) (hE:Elems P t e m bytes)
    (hF:FR w0 Ds (pre++(sb++post)) w) (hS:SlB e m A len c xs sb) (hx:ev n s x=.slice A len c) (hy:ev n s y=.slice A2 k c2)
    (hl:aL news=k*m) (hnews:k≠0->∃a,A2=some a/\∀j u,news[j]? = some u->w.cell? (a.add j)=some u) (h1:∀u∈news,u.oneCell'=true)
    (h63:len+k<=maxLen)   (hlen:len+k=len') (hys:xs++news=ys) (hbytes:(len+k)*bytes<=140737488355328)
    (h:∀A' c' sb' w',SlB e m A' len' c' ys sb'->FR w0 Ds (pre++(sb'++post)) w'->Same (sb.map (·.1)) w w'->(∀p∈sb',p.1∈sb.map (·.1)\/w.heap.size<=p.1)->C w'/\Dg P R n ops kt zs order C (Ic s d (.slice A' len' c')) w')
    (hw:Ka ops n s ⟨some d,.call ⟨.builtin .append,#[x,y],#[t,t]⟩,ty,pos,aft,g⟩=true:=by rfl) (hzz:zs.contains i=false:=by rfl):Dg P R n ops kt zs (.act i order) C s w:=by
  subst hlen hys;obtain⟨ii,z,hi',hz,h2,h3,h4⟩:=hE.info;obtain⟨A',c',sb',w',hr,hS',hF',hs,hn⟩:=Qv (ty:=ty) (c2:=c2) hE.ht hi' hz h2 h3 h4 hF hS hl hnews h1 h63 hbytes;have r:=h A' c' sb' w' hS' hF' hs hn;exact Ct hi (Fq hx hy hr) r.1 r.2 hw hzz
theorem one_eq{v:Value}(h:one v=true):v.oneCell'=true:=by cases v <;> first|rfl|cases h
theorem Ig{l:List Value}(h:∀v∈l,one v=true):∀v∈l,v.oneCell'=true:=by grind [one_eq]
theorem Kc{a:Addr}{l:List Value}(h:∀j (hj:j<aL l),w.cell? (a.add j)=some l[j]):∀j u,l[j]? = some u->w.cell? (a.add j)=some u:=qK
def WY:∀(l pre:List Value)(cs:Array Value),cs.size=aL pre+aL l->cs.toList.take (aL pre)=pre ->
    ((l.zipIdx 0).foldl (λ(a:Array Value) (p:Value × Nat)=>a.setIfInBounds (aL pre+p.2) p.1) cs)=(pre++l).toArray:=by
  intro l pre cs hs hp;have key:∀(l:List Value)(k:Nat)(cs:Array Value),((l.zipIdx k).foldl (λ(a:Array Value) (p:Value × Nat)=>a.setIfInBounds (aL pre+p.2) p.1) cs)=putA cs (aL pre+k) l:=by
    intro l
    induction l with
    | nil =>
      intro k cs;rfl
    | cons v l ih =>
      intro k cs;rw[List.zipIdx_cons,List.foldl_cons,ih,putA];rfl
  rw[key,Nat.add_zero];exact OB l pre cs hs hp
def Cj{ρ:Operand->Value}{dst:Option Nat}{t e:Nat}{x:Operand}{z:Value}{l:List Value}(ht:P.underlying t=some (.slice e))(hs:∀w,(sizeOf e).run P w=.ok size w)(hz:∀w,(zeroValue e).run P w=.ok z w)
    (h1:(1*size<=16777216)=True) (h0:(1*size=0)=False) (hx:ρ x=.agg l.toArray) (hl:aL l=size) :
    (execOp ρ ⟨dst,.buildSlice t 1 #[(0,x)],ty,pos,aft,g⟩).run P w=.ok (.value (.slice (some ⟨w.heap.size,0,none⟩) 1 1)) (w.alloc (.cells l.toArray e)):=by
  refine Md ht hs hz h1 h0 ?_;have hc:(Value.agg l.toArray).cells=l.toArray:=rfl;simp only[lZ,List.map_nil,hx,Instr.fill,hc,List.size_toArray,hl,Nat.zero_mul,Nat.zero_add];have hsz:((Array.range<|1*size).map (z.cells[· % z.cells.size]!)).size=size:=Da
  generalize (Array.range<|1*size).map (z.cells[· % z.cells.size]!)=Z at hsz ⊢;have hf:=WY l [] Z (by simp[hl,hsz]) Da;simp only[cZ,Nat.zero_add,nZ]at hf;have e1:Array.foldl (λ(cs:Array Value) (x:Value × Nat)=>cs.setIfInBounds x.2 x.1) Z l.toArray.zipIdx=l.toArray:=by
    refine Eq.trans ?_ hf;simp
  simp only[hsz];have hc1:(decide (size≠size) || decide (size>size))=false:=Da
  simp only[hc1];exact yQ some e1
def Y7{ρ:Operand->Value}{dst:Option Nat}{t t' e:Nat}{x y:Operand}{A:Option Addr}{len c:Nat}(ht:P.underlying t=some (.slice e))(hx:ρ x=.slice A len c)(hy:ρ y=aQ) :
    (execOp ρ ⟨dst,.binOp .eql t x y t',ty,pos,aft,g⟩).run P w=.ok (.value (.bool A.isNone)) w:=by
  have h:=Lib.run_eql_slice_nil (P:=P) w t e A len c 0 0 ht;have hg:(eqGuard .eql t x y (.slice A len c) aQ).run P w=.ok () w:=by unfold eqGuard;split <;> simp
  simp only[execOp,hx,hy,Sem.run_bind,hg,Result.andThen_ok,h,Sem.run_pure]
theorem Mj{ρ:Operand->Value}{dst:Option Nat}{t e:Nat}(ht:P.underlying t=some (.slice e))(hs:∀w,(sizeOf e).run P w=.ok size w) :
    (execOp ρ ⟨dst,.buildSlice t 0 #[],ty,pos,aft,g⟩).run P w=.ok (.value (.slice (some ⟨w.heap.size,0,none⟩) 0 0)) (w.alloc (.cells #[] e)):=by
  have hu:∀w,(underlying t).run P w=.ok (.slice e) w:=run_underlying ht;have h0:∀v:Value,Array.map (λ_=>v) (Array.range 0)=#[]:=qK
  simp[execOp,Instr.buildSlice,hu,hs,Instr.fill,newRow,newObj,Sem.run,h0]
theorem LJ:∀(l pre mid post:List Value),aL mid=aL l->putA (pre++(mid++post)).toArray (aL pre) l=(pre++(l++post)).toArray
  | [], pre, mid, post, h => by
    have:mid=[]:=List.eq_nil_of_length_eq_zero (aS h);subst this;rfl
  | v :: l, pre, mid, post, h => by
    cases mid with
    | nil=>simp at h
    | cons u mid =>
      have ih:=LJ l (pre++[v]) mid post (aS h);rw[dQ,List.length_singleton]at ih;rw[putA];have e:(pre++(u::mid++post)).toArray.setIfInBounds (aL pre) v=(pre++[v]++(mid++post)).toArray:=by
        simp
      rw[e,ih];simp
theorem JG(pre post:List (Nat × Obj)){x y:Operand}{t e m len c j:Nat}{A:Option Addr}{new:List Value}{v:Value}{dst:Option Nat}(hF:FR w0 Ds (pre++(sb++post)) w)(hS:SlB e m A len c xs sb)(hA:A=some ad)(hj:j<len)
    (hs:∀w,(sizeOf t).run P w=.ok m w) (hx:ev n s x=.pointer (some (ad.add (j*m)))) (hy:ev n s y=v) (hl:v.cells=new.toArray) (hm:aL new=m) (hv:∀v∈new,one v=true) :
    ∃sb' w',(execOp (ev n s) ⟨dst,.store t x y,ty,pos,aft,g⟩).run P w=.ok .skip w'/\SlB e m A len c (xs.take (j*m)++(new++xs.drop (j*m+m))) sb'/\FR w0 Ds (pre++(sb'++post)) w'/\Same (sb.map (·.1)) w w'/\sb'.map (·.1)=sb.map (·.1):=by
  subst hA;have hmul:(j+1)*m<=len*m:=Nat.mul_le_mul_right m hj;rw[Nat.add_mul,Nat.one_mul]at hmul;have hxl:=hS.1;rcases hS.2 with ⟨rfl,-⟩|⟨b,cur,hA,rfl,h1,h2,h3,h4⟩
  ·omega
  injection hA with hA
  subst hA;have hcl:len*m<=c*m:=qK
  have hi:(pre++([(b,Obj.cells cur e)]++post))[aL pre]? = some (b,.cells cur e):=Da
  have hc:cur=(xs.take (j*m)++(((xs.drop<|j*m).take m)++(xs.drop (j*m+m)++cur.toList.drop (len*m)))).toArray:=by
    apply Array.toList_inj.1;show cur.toList=_;have e1:xs=xs.take (j*m)++((xs.drop<|j*m).take m++xs.drop (j*m+m)):=by rw[<-List.drop_drop,List.take_append_drop,List.take_append_drop]
    have e2:cur.toList=xs++cur.toList.drop (len*m):=by rw[<-h4,List.take_append_drop]
    conv=>lhs;rw[e2,e1]
    simp[sQ]
  have hput:putA cur (0+j*m) new=(xs.take (j*m)++(new++(xs.drop (j*m+m)++cur.toList.drop (len*m)))).toArray:=by
    conv=>lhs;rw[hc]
    have:=LJ new (xs.take<|j*m) ((xs.drop<|j*m).take m) (xs.drop (j*m+m)++cur.toList.drop (len*m)) (by rw[jZ,zQ];omega);rw[jZ,Nat.min_eq_left Aa]at this;rw[Nat.zero_add];exact this
  obtain⟨w',hr,hF',hsm⟩:=Xt (P:=P) (n:=n) (s:=s) (dst:=dst) (ty:=ty) (pos:=pos) (aft:=aft) (g:=g) (ii:=aL pre) (off:=0+j*m) (l:=new) (T:=e) hF jU (by rw[hx,Te]) hy hl hv hi (by rw[hm,h3];omega) hput;refine⟨[(b,.cells (xs.take (j*m)++(new++(xs.drop (j*m+m)++cur.toList.drop (len*m)))).toArray e)],w',hr,⟨?_,.inr ⟨b,_,O,O,h1,h2,?_,?_⟩⟩,?_,by simpa using hsm,O⟩
  ·simp only[dQ, jZ, zQ]
   omega
  ·have hcs : (aL cur.toList) = c*m := by rw[Array.length_toList, h3]
   simp only[List.size_toArray,dQ,jZ,zQ];omega
  ·rw[show xs.take (j*m) ++ (new ++ (xs.drop (j*m + m) ++ cur.toList.drop (len*m))) = (xs.take (j*m) ++ (new ++ xs.drop (j*m + m))) ++ cur.toList.drop (len*m) by simp[sQ]]
   have:aL (xs.take (j*m)++(new++xs.drop (j*m+m)))=len*m:=by simp only[dQ,jZ,zQ];omega
   rw[<-this];exact List.take_left
  simpa[List.set_append]using hF'
theorem SlB.elem{e m len c:Nat}{A:Option Addr}{pre post:List (Nat × Obj)}(hS:SlB e m A len c xs sb)(hF:FR w0 Ds (pre++(sb++post)) w){j:Nat}(hj:j<len) :
    ∃ad,A=some ad/\∀i (hi:i<aL ((xs.drop (j*m)).take m)),w.cell? ((ad.add (j*m)).add i)=some ((xs.drop (j*m)).take m)[i]:=by
  have hA:∃ad,A=some ad:=by
    rcases hS.2 with ⟨rfl,-⟩|⟨b,cur,hA,-⟩
    ·omega
    grind
  obtain⟨ad,rfl⟩:=hA;refine⟨ad,O,λi hi=>?_⟩;rw[Jo];refine hS.cells hF ad O (j*m+i) _ ?_;rw[List.getElem_take,List.getElem_drop];exact List.getElem?_eq_getElem _
theorem f_unitz{C:World->Prop}{order:Ord}{zs:Lt}{i:Nat}{op:Op}{w':World}(hi:ops[i]? = some ⟨none,op,ty,pos,aft,g⟩)(hrun:(execOp (ev n s) ⟨none,op,ty,pos,aft,g⟩).run P w=.ok .skip w')(h:Dg P R n ops kt zs order (λ_=>True) s w')
    (hw:Ka ops n s ⟨none,op,ty,pos,aft,g⟩=true:=by rfl) (hz:zs.contains i=true:=by rfl) (hDT:zs.D=(λ_=>True):=by rfl):Dg P R n ops kt zs (.act i order) C s w:=by grind [UR]
theorem SlB.elemMid{e m len c:Nat}{A:Option Addr}{mid:List Value}{pre post:List (Nat × Obj)}(hS:SlB e m A len c (pr++(mid++po)) sb)(hF:FR w0 Ds (pre++(sb++post)) w){j:Nat}(hp:aL pr=j*m)(hm:aL mid=m)(hj:j<len) :
    ∃ad,A=some ad/\∀i (hi:i<aL mid),w.cell? ((ad.add (j*m)).add i)=some mid[i]:=by
  obtain⟨ad,hA,hc⟩:=hS.elem hF hj;grind
def KK(pre post:List (Nat × Obj)){x y:Operand}{t e m len c j:Nat}{A:Option Addr}{mid new:List Value}{v:Value}{dst:Option Nat}(hF:FR w0 Ds (pre++(sb++post)) w)(hS:SlB e m A len c (pr++(mid++po)) sb)(hp:aL pr=j*m)(hmm:aL mid=m)(hA:A=some ad)(hj:j<len)
    (hs:∀w,(sizeOf t).run P w=.ok m w) (hx:ev n s x=.pointer (some (ad.add (j*m)))) (hy:ev n s y=v) (hl:v.cells=new.toArray) (hm:aL new=m) (hv:∀v∈new,one v=true) :
    ∃sb' w',(execOp (ev n s) ⟨dst,.store t x y,ty,pos,aft,g⟩).run P w=.ok .skip w'/\SlB e m A len c (pr++(new++po)) sb'/\FR w0 Ds (pre++(sb'++post)) w'/\Same (sb.map (·.1)) w w'/\sb'.map (·.1)=sb.map (·.1):=by
  obtain⟨sb',w',h1,h2,h3,h4,h5⟩:=JG (P:=P) (n:=n) (s:=s) (dst:=dst) (ty:=ty) (pos:=pos) (aft:=aft) (g:=g) pre post hF hS hA hj hs hx hy hl hm hv;refine⟨sb',w',h1,?_,h3,h4,h5⟩;have e1:(pr++(mid++po)).take (j*m)=pr:=by rw[<-hp,List.take_left]
  have e2:(pr++(mid++po)).drop (j*m+m)=po:=by rw[<-List.drop_drop,<-hp,List.drop_left,<-hmm,List.drop_left]
  rw[e1,e2]at h2;exact h2
theorem FR.lt_ids{bs:List (Nat × Obj)}(h:FR w0 Ds bs w){x:Nat}(hx:x∈bs.map (·.1)):x<w.heap.size:=by
  obtain⟨p,hp,rfl⟩:=nQ.1 hx;exact Pa<|h.memHeap hp
def RX.app{l:List Nat}{sb':List (Nat × Obj)}{w':World}{ds:List D}{cs:List Value}(h:RX w0 (l++sb.map (·.1)) w ds cs)(hs:Same (sb.map (·.1)) w w')(hn:∀p∈sb',p.1∈sb.map (·.1)\/w.heap.size<=p.1):RX w0 (l++sb'.map (·.1)) w' ds cs :=
  h.step hs (λb hb=>mQ.2<|.inr hb) (λx hx=>by
    rcases mQ.1 hx with hx|hx
    ·exact .inl<|mQ.2<|.inl hx
    obtain⟨p, hp, rfl⟩ := nQ.1 hx;rcases hn p hp with h1|h1
    ·exact .inl<|mQ.2<|.inr h1
    exact .inr h1)
theorem YU(pre post:List (Nat × Obj)){C:World->Prop}{order:Ord}{zs:Lt}{i:Nat}{x y:Operand}{t e m len c j:Nat}{A:Option Addr}{mid new:List Value}{v:Value}(hi:ops[i]? = some ⟨none,.store t x y,ty,pos,aft,g⟩)
    (hF:FR w0 Ds (pre++(sb++post)) w) (hS:SlB e m A len c (pr++(mid++po)) sb) (hp:aL pr=j*m) (hmm:aL mid=m) (hA:A=some ad) (hj:j<len)
    (hs:∀w,(sizeOf t).run P w=.ok m w) (hx:ev n s x=.pointer (some (ad.add (j*m)))) (hy:ev n s y=v) (hl:v.cells=new.toArray) (hm:aL new=m) (hv:∀v∈new,one v=true)
    (h:∀sb' w',SlB e m A len c (pr++(new++po)) sb'->FR w0 Ds (pre++(sb'++post)) w'->Same (sb.map (·.1)) w w'->sb'.map (·.1)=sb.map (·.1)->Dg P R n ops kt zs order (λ_=>True) s w')
    (hw:Ka ops n s ⟨none,.store t x y,ty,pos,aft,g⟩=true:=by rfl) (hz:zs.contains i=true:=by rfl) (hDT:zs.D=(λ_=>True):=by rfl):Dg P R n ops kt zs (.act i order) C s w:=by
  obtain⟨sb',w',h1,h2,h3,h4,h5⟩:=KK (P:=P) (n:=n) (s:=s) (dst:=none) (ty:=ty) (pos:=pos) (aft:=aft) (g:=g) pre post hF hS hp hmm hA hj hs hx hy hl hm hv;grind [f_unitz]
end
inductive Spl:List (Nat × Obj)->List (Nat × Obj)->List (Nat × Obj)->List (Nat × Obj)->Prop
  | z {sb post:List (Nat × Obj)}:Spl (sb++post) [] sb post
  | c {x:Nat × Obj} {l pre sb post:List (Nat × Obj)}:Spl l pre sb post->Spl (x::l) (x::pre) sb post
  | a {base l pre sb post:List (Nat × Obj)}:Spl l pre sb post->Spl (base++l) (base++pre) sb post
theorem Spl.eq{l pre sb post:List (Nat × Obj)}(h:Spl l pre sb post):l=pre++(sb++post):=by
  induction h with
  | z=>rfl
  | c _ ih=>grind
  | a _ ih=>grind
section
variable {P:Program}{R:Exit->Act->World->Prop}{n:Nat}{kt:Kt}{s:Nat->Value}{w:World}{ops rest:List Oper}
variable {d:Nat}{ty:TypeId}{pos:String}{aft:Array Edge}{g:Option (Nat × Bool)}
variable {w0:World}{Ds:List Nat}{sb bs_ pre post:List (Nat × Obj)}
def I6{x y:Operand}{t e m bytes:Nat}{A:Option Addr}{len c k:Nat}(hE:Elems P t e m bytes)
    (hF:FR w0 Ds bs_ w) (hS:SlB e m A len c xs sb) (hx:ev n s x=.slice A len c) (hy:ev n s y=.slice A2 k c2)
    (hl:aL news=k*m) (hnews:k≠0->∃a,A2=some a/\∀j u,news[j]? = some u->w.cell? (a.add j)=some u) (h1:∀u∈news,u.oneCell'=true)
    (h63:len+k<=maxLen)   (hlen:len+k=len') (hys:xs++news=ys) (hbytes:(len+k)*bytes<=140737488355328)
    (h:∀A' c' sb' w',SlB e m A' len' c' ys sb'->FR w0 Ds (pre++(sb'++post)) w'->Same (sb.map (·.1)) w w'->(∀p∈sb',p.1∈sb.map (·.1)\/w.heap.size<=p.1)->Og P R n ops kt rest (Ic s d (.slice A' len' c')) w')
    (hw:Ka ops n s ⟨some d,.call ⟨.builtin .append,#[x,y],#[t,t]⟩,ty,pos,aft,g⟩=true:=by rfl) (hsp:Spl bs_ pre sb post:=by repeat (first|exact Spl.z|apply Spl.c|apply Spl.a)):Og P R n ops kt (⟨some d,.call ⟨.builtin .append,#[x,y],#[t,t]⟩,ty,pos,aft,g⟩::rest) s w :=
  Vk pre post hE (hsp.eq▸hF) hS hx hy hl hnews h1 h63 hlen hys hbytes h hw
def f_app{C:World->Prop}{order:Ord}{zs:Lt}{i:Nat}{x y:Operand}{t e m bytes:Nat}{A:Option Addr}{len c k:Nat}
    (hi:ops[i]? = some ⟨some d,.call ⟨.builtin .append,#[x,y],#[t,t]⟩,ty,pos,aft,g⟩) (hE:Elems P t e m bytes)
    (hF:FR w0 Ds bs_ w) (hS:SlB e m A len c xs sb) (hx:ev n s x=.slice A len c) (hy:ev n s y=.slice A2 k c2)
    (hl:aL news=k*m) (hnews:k≠0->∃a,A2=some a/\∀j u,news[j]? = some u->w.cell? (a.add j)=some u) (h1:∀u∈news,u.oneCell'=true)
    (h63:len+k<=maxLen)   (hlen:len+k=len') (hys:xs++news=ys) (hbytes:(len+k)*bytes<=140737488355328)
    (h:∀A' c' sb' w',SlB e m A' len' c' ys sb'->FR w0 Ds (pre++(sb'++post)) w'->Same (sb.map (·.1)) w w'->(∀p∈sb',p.1∈sb.map (·.1)\/w.heap.size<=p.1)->C w'/\Dg P R n ops kt zs order C (Ic s d (.slice A' len' c')) w')
    (hw:Ka ops n s ⟨some d,.call ⟨.builtin .append,#[x,y],#[t,t]⟩,ty,pos,aft,g⟩=true:=by rfl) (hzz:zs.contains i=false:=by rfl) (hsp:Spl bs_ pre sb post:=by repeat (first|exact Spl.z|apply Spl.c|apply Spl.a)):Dg P R n ops kt zs (.act i order) C s w :=
  Yk pre post hi hE (hsp.eq▸hF) hS hx hy hl hnews h1 h63 hlen hys hbytes h hw hzz
end
theorem M7{sb:List (Nat × Obj)}:∀(segs:List (List (Nat × Obj)))(q:Nat),segs[q]? = some sb->∀s,(segs.set q s).flatten=(segs.take q).flatten++(s++(segs.drop (q+1)).flatten)
  | [],_,h,_=>by simp at h
  | x::l,0,_,s=>by simp
  | x :: l, q + 1, h, s => by
    have:=M7 l q (aS h) s;simp[this]
section
variable {P:Program}{R:Exit->Act->World->Prop}{n:Nat}{kt:Kt}{s:Nat->Value}{w:World}{ops rest:List Oper}
variable {d:Nat}{ty:TypeId}{pos:String}{aft:Array Edge}{g:Option (Nat × Bool)}
variable {w0:World}{Ds:List Nat}{sb:List (Nat × Obj)}
theorem o_appN(base:List (Nat × Obj))(segs:List (List (Nat × Obj)))(q:Nat){x y:Operand}{t e m bytes:Nat}{A:Option Addr}{len c k:Nat}(hE:Elems P t e m bytes)
    (hF:FR w0 Ds (base++segs.flatten) w) (hS:SlB e m A len c xs sb) (hx:ev n s x=.slice A len c) (hy:ev n s y=.slice A2 k c2)
    (hl:aL news=k*m) (hnews:k≠0->∃a,A2=some a/\∀j u,news[j]? = some u->w.cell? (a.add j)=some u) (h1:∀u∈news,u.oneCell'=true)
    (h63:len+k<=maxLen)   (hlen:len+k=len') (hys:xs++news=ys) (hbytes:(len+k)*bytes<=140737488355328)
    (h:∀A' c' sb' w',SlB e m A' len' c' ys sb'->FR w0 Ds (base++(segs.set q sb').flatten) w'->Same (sb.map (·.1)) w w'->(∀p∈sb',p.1∈sb.map (·.1)\/w.heap.size<=p.1)->Og P R n ops kt rest (Ic s d (.slice A' len' c')) w')
    (hw:Ka ops n s ⟨some d,.call ⟨.builtin .append,#[x,y],#[t,t]⟩,ty,pos,aft,g⟩=true:=by rfl) (hq:segs[q]? = some sb:=by rfl):Og P R n ops kt (⟨some d,.call ⟨.builtin .append,#[x,y],#[t,t]⟩,ty,pos,aft,g⟩::rest) s w:=by
  have hs:segs.set q sb=segs:=List.ext_getElem? λj=>by rw[List.getElem?_set];split;rename_i e;subst e;split;exact hq.symm;(rename_i h;rw[List.getElem?_eq_none Aa]);rfl
  have e1:base++segs.flatten=(base++(segs.take q).flatten)++(sb++(segs.drop<|q+1).flatten):=by grind [M7]
  rw[e1]at hF;refine Vk _ _ hE hF hS hx hy hl hnews h1 h63 hlen hys hbytes (λA' c' sb' w' a b c d=>h A' c' sb' w' a ?_ c d) hw;grind [M7]
end
abbrev MapL:=List (Str × Value)
def Yo(x:(Str × Value) × Nat):MapEntry:=⟨.string (bs x.1.1),x.1.2,x.2⟩
def Fb(l:MapL)(n:Nat):List MapEntry:=(l.zipIdx n).map Yo
def Vc(l:MapL):Obj:=.map (Fb l 0).toArray (aL l)
def Ie(l:MapL)(k:Str):Option Value:=(l.find? (λx=>decide (x.1=k))).map (·.2)
theorem RR(a b:Str):(bs a==bs b)=decide (a=b):=by
  show (a.toArray==b.toArray)=_;grind
theorem J7(k:Str):∀(l:MapL)(n i:Nat),Instr.findNow .string (.string (bs k)) (Fb l n) i=some ((l.findIdx? (λx=>decide (x.1=k))).bind λj=>(l[j]?).map λx=>(i+j,x.2))
  | [],n,i=>by simp[Fb,Instr.findNow]
  | x :: l, n, i => by
    have ih:=J7 k l (n+1)<|i+1;unfold Fb at ih ⊢;rw[List.zipIdx_cons,lZ,Instr.findNow,List.findIdx?_cons];have hs:Instr.sameNow .string (.string<|bs k) (Yo (x,n)).key=some (decide (x.1=k)):=by
      simp only[Yo,Instr.sameNow,RR]
      congr 1
      by_cases h:k=x.1
      ·simp[h]
      simp[h,show ¬x.1=k from λe=>h e.symm]
    rw[hs];by_cases h:x.1=k
    ·simp[h,Yo]
    simp only[h, decide_false, Bool.false_eq_true, if_false];rw[ih];cases hf:List.findIdx? (λx=>decide (x.1=k)) l with
    | none=>simp
    | some j=>simp;congr 1;funext y;congr 1;omega
def find_idx(l:MapL)(k:Str):((l.findIdx? (λx=>decide (x.1=k))).bind λj=>l[j]?)=l.find? (λx=>decide (x.1=k)):=by
  induction l with
  | nil=>rfl
  | cons x l ih =>
    rw[List.findIdx?_cons,List.find?_cons];by_cases h:x.1=k
    ·simp[h]
    simp only[h, decide_false, Bool.false_eq_true, if_false];rw[<-ih];cases List.findIdx? (λx=>decide (x.1=k)) l <;> simp
section
variable {P:Program}{R:Exit->Act->World->Prop}{n:Nat}{k:Kt}{s:Nat->Value}{w:World}{ops rest:List Oper}
variable {d:Nat}{ty:TypeId}{pos:String}{aft:Array Edge}{g:Option (Nat × Bool)}
variable {w0:World}{Ds:List Nat}{bs_:List (Nat × Obj)}{ρ:Operand->Value}{dst:Option Nat}
def Co{b:Nat}{l:MapL}(h:w.heap[b]? = some (Vc l)):(getObj b).run P w=.ok (.map (Fb l 0).toArray (aL l)) w:=by simp[getObj,Sem.run,h,Vc]
def I9(m:Nat){kt:TypeId}{e:Bool}{x:Str}(hk:P.underlying kt=some .string):(Instr.checkKey e (m+1) kt (.string (bs x))).run P w=.ok () w:=by simp[Instr.checkKey,run_underlying hk]
def An{kt:TypeId}{e:Bool}{x:Str}(hk:P.underlying kt=some .string):(Instr.checkKey e 10000 kt (.string (bs x))).run P w=.ok () w:=I9 9999 hk
def Cp{kt:TypeId}{l:MapL}{x:Str}(hk:P.underlying kt=some .string) :
    (Instr.findKey kt (.string (bs x)) (Fb l 0)).run P w=.ok ((l.findIdx? (λy=>decide (y.1=x))).bind λj=>(l[j]?).map λy=>(j,y.2)) w:=by
  simp only[Instr.findKey,Sem.run_bind,run_underlying hk,Result.andThen_ok,J7,Nat.zero_add];rfl
theorem Yt(l:MapL)(x:Str):((l.findIdx? (λy=>decide (y.1=x))).bind λj=>(l[j]?).map λy=>(j,y.2)).map (·.2)=Ie l x:=by
  unfold Ie;rw[<-find_idx];cases List.findIdx? (λy=>decide (y.1=x)) l with
  | none=>rfl
  | some j=>grind
theorem SW{t kt e b:Nat}{x y:Operand}{l:MapL}{key:Str}{z:Value}(ht:P.underlying t=some (.map kt e))(hk:P.underlying kt=some .string)(hz:∀w,(zeroValue e).run P w=.ok z w)
    (hx:ρ x=.map (some b)) (hy:ρ y=.string (bs key)) (hb:w.heap[b]? = some (Vc l)) :
    (execOp ρ ⟨dst,.lookup t x y false,ty,pos,aft,g⟩).run P w=.ok (.value ((Ie l key).getD z)) w:=by
  have h:=Yt l key;cases hf:((l.findIdx? λy=>decide (y.1=key)).bind λj=>(l[j]?).map λy=>(j,y.2))with
  | none =>
    rw[hf]at h;simp only[Option.map_none]at h;rw[<-h];simp[execOp,Instr.lookup,hx,hy,run_underlying ht,Co hb,An hk,Cp hk,hf,hz]
  | some q =>
    rw[hf]at h;simp only[Option.map_some]at h;rw[<-h];simp[execOp,Instr.lookup,hx,hy,run_underlying ht,Co hb,An hk,Cp hk,hf]
def XA{t kt e:Nat}{x:Operand}{k:IntKind}{i:Int}(ht:P.underlying t=some (.map kt e))(hx:ρ x=.int k i) :
    (execOp ρ ⟨dst,.makeMap t (some x),ty,pos,aft,g⟩).run P w=.ok (.value (.map (some w.heap.size))) (w.alloc (Vc [])):=by simp[execOp,Instr.makeMap,hx,run_underlying ht,asInt,asIntOf,newObj,Sem.run,Vc,Fb]
theorem U0(l:MapL)(x:Str × Value)(n:Nat):Fb (l++[x]) n=Fb l n++[⟨.string (bs x.1),x.2,n+aL l⟩]:=by grind [Fb,Yo]
def X6{b:Nat}{l:MapL}{o:Obj}(h:w.heap[b]? = some (Vc l))(ho:∃es c,o=.map es c):(setObj b o).run P w=.ok () { w with heap:=w.heap.setIfInBounds b o }:=by
  obtain⟨es,c,rfl⟩:=ho;simp[setObj,Sem.run,h,Vc]
theorem W1{t kt e b:Nat}{x y z:Operand}{l:MapL}{key:Str}{v:Value}(ht:P.underlying t=some (.map kt e))(hk:P.underlying kt=some .string)
    (hx:ρ x=.map (some b)) (hy:ρ y=.string (bs key)) (hv:ρ z=v) (hb:w.heap[b]? = some (Vc l)) (hn:Ie l key=none) :
    (execOp ρ ⟨dst,.mapUpdate t x y z,ty,pos,aft,g⟩).run P w=.ok .skip { w with heap:=w.heap.setIfInBounds b (Vc (l++[(key,v)])) }:=by
  have h:=Yt l key;rw[hn]at h;have hf:((l.findIdx? λy=>decide (y.1=key)).bind λj=>(l[j]?).map λy=>(j,y.2))=none:=qX
  have ho:Vc (l++[(key,v)])=.map (Fb l 0++[(⟨.string<|bs key,v,aL l⟩:MapEntry)]).toArray (aL l+1):=by grind [Vc,U0]
  have hs:=X6 (P:=P) (o:=Vc<|l++[(key,v)]) hb ⟨_,_,rfl⟩;rw[ho]at hs ⊢;simp[execOp,Instr.mapUpdate,hx,hy,hv,run_underlying ht,Co hb,An hk,Cp hk,hf,hs]
theorem Hx(l:MapL)(n:Nat):(Fb l n).map (·.born)=List.range' n (aL l):=by
  induction l generalizing n with
  | nil=>rfl
  | cons x l ih =>
    have:=ih<|n+1;unfold Fb at this ⊢;rw[List.zipIdx_cons,lZ,lZ,this,kQ,List.range'_succ];rfl
theorem Ci(l:MapL)(n:Nat):aL (Fb l n)=aL l:=by simp[Fb]
theorem H2(l:MapL)(n i:Nat)(h:i<aL l):(Fb l n)[i]'(by rw[Ci];exact h)=⟨.string (bs l[i].1),l[i].2,n+i⟩:=by
  simp[Fb,Yo]
theorem CK(l:MapL):∀x∈(Fb l 0).toArray.toList,x.born<aL l:=by
  intro x hx;have:x.born∈(Fb l 0).map (·.born):=qK
  grind [Hx]
theorem Hq{t kt e b:Nat}{x y:Operand}{l:MapL}{key:Str}{z v:Value}(ht:P.underlying t=some (.map kt e))(hk:P.underlying kt=some .string)(hz:∀w,(zeroValue e).run P w=.ok z w)
    (hx:ρ x=.map (some b)) (hy:ρ y=.string (bs key)) (hb:w.heap[b]? = some (Vc l)) (hv:(Ie l key).getD z=v) :
    (execOp ρ ⟨dst,.lookup t x y false,ty,pos,aft,g⟩).run P w=.ok (.value v) w:=by grind [SW]
theorem FR.setObj{o o':Obj}{b:Nat}(hF:FR w0 Ds bs_ w)(i:Nat)(hi:bs_[i]? = some (b,o)):FR w0 Ds (bs_.set i (b,o')) { w with heap:=w.heap.setIfInBounds b o' } :=
  hF.change i hi (Ts w b o') (by have:=hF.lt hi;simp[this])
def Zs(i:Nat){t kt e b:Nat}{x y z:Operand}{l:MapL}{key:Str}{v:Value}(hF:FR w0 Ds bs_ w)(ht:P.underlying t=some (.map kt e))(hk:P.underlying kt=some .string)
    (hx:ev n s x=.map (some b)) (hy:ev n s y=.string (bs key)) (hv:ev n s z=v) (hi:bs_[i]? = some (b,Vc l)) (hn:Ie l key=none)
    (h:∀w',FR w0 Ds (bs_.set i (b,Vc (l++[(key,v)]))) w'->Same [b] w w'->Og P R n ops k rest s w')
    (hw:Ka ops n s ⟨none,.mapUpdate t x y z,ty,pos,aft,g⟩=true:=by rfl):Og P R n ops k (⟨none,.mapUpdate t x y z,ty,pos,aft,g⟩::rest) s w :=
  Z0 (W1 ht hk hx hy hv (hF.heap hi) hn) (h _ (hF.setObj i hi)<|Ts w b _) hw
theorem EE(l l':MapL)(k:Str):Ie (l++l') k=(Ie l k).or (Ie l' k):=by grind [Ie]
def FV{t kt e b:Nat}{x:Operand}{l:MapL}(ht:P.underlying t=some (.map kt e))(hx:ρ x=.map (some b))(hb:w.heap[b]? = some (Vc l)) :
    (execOp ρ ⟨dst,.call ⟨.builtin .len,#[x],#[t]⟩,ty,pos,aft,g⟩).run P w=.ok (.value (.int .i64 (aL l:Int))) w:=by
  have hu:∀w,(underlying t).run P w=.ok (.map kt e) w:=run_underlying ht;simp[execOp,resolve,invoke,builtin,Builtin.len_,hx,hu,goInt,Co hb,Ci]
theorem FR.heap0{b:Nat}{o:Obj}(hF:FR w0 [] bs_ w)(h:w0.heap[b]? = some o):w.heap[b]? = some o:=(hF.same.block b (Pa h) Da).trans h
end
open Go.RowKit Go.Maps Go.WideShapes
open Go.Proofs (encStr)
def VP{P:Program}{k:TypeId}(hk:P.underlying k=some .string)(x:(Str × Value) × Nat)(h:aL x.1.1<=maxLen) :
    WideElems.rd P k (λ_=>some ((.nil:DataW Unit),([]:List MemPlace))) (Yo x)=some (.string x.1.1,.nil):=by
  have h1:(bs x.1.1).size<=maxLen:=h;simp[WideElems.rd,Yo,keyOf,hk,mapKey,h1]
theorem H5{P:Program}{k:TypeId}(hk:P.underlying k=some .string):∀(l:MapL)(n:Nat),(∀x∈l,aL x.1<=maxLen) ->
    (Fb l n).map (WideElems.rg P k (λ_=>some ((.nil:DataW Unit),([]:List MemPlace))))=l.map (λx=>(Lit.string x.1,DataW.nil))
  | [],n,_=>rfl
  | x :: l, n, h => by
    have ih:=H5 hk l (n+1) λy hy=>h y bT;unfold Fb at ih ⊢;rw[List.zipIdx_cons,lZ,lZ,lZ,ih]
    congr 1
    unfold WideElems.rg;rw[VP hk _<|h x Da];rfl
theorem LN{P:Program}{k:TypeId}{w:World}{b:Nat}{l:MapL}(hk:P.underlying k=some .string)(hb:w.heap[b]? = some (Vc l))(hn:(l.map (·.1)).Nodup)(hx:∀x∈l,aL x.1<=maxLen)(hl:aL l<=maxLen) :
    ∃D0:DataW Unit,w.ownsMap P k (λ_=>some (.nil,[])) b (aL l) D0/\(strKeys D0).Perm (l.map (·.1))/\Maps.size D0=aL l:=by
  have hrg:=H5 hk l 0 hx;refine⟨_,⟨(Fb l 0).toArray,aL l,hb,⟨by simpa[Ci]using hl,⟨λx hx=>CK l x hx,?_,?_⟩,?_⟩,by simp[Ci],O⟩,?_,?_⟩
  ·grind [Hx]
  ·rw[List.toList_toArray]
   have:∀(l:MapL)(n:Nat),(Fb l n).map (·.key)=l.map (λx=>Value.string<|bs x.1):=by
     intro l
     induction l with
     | nil =>
       intro n;rfl
     | cons x l ih =>
       intro n;have:=ih<|n+1;unfold Fb at this ⊢;rw[List.zipIdx_cons,lZ,lZ,this];rfl
   grind
  ·intro x hx'
   rw[List.toList_toArray]at hx';obtain⟨⟨y,i⟩,hy,rfl⟩:=nQ.1 hx';have hm:y∈l:=qK
   exact⟨_,VP hk (y,i)<|hx y hm⟩
  ·rw[List.toList_toArray, hrg]
   have hp:=sorted_perm<|l.map λx=>(Lit.string x.1,(DataW.nil:DataW Unit));refine (hp.map λp=>strOf p.1).trans ?_;rw[List.map_map];exact List.Perm.refl _
  rw[List.toList_toArray, hrg];have hp:=sorted_perm<|l.map λx=>(Lit.string x.1,(DataW.nil:DataW Unit));show List.length _=_;rw[hp.length_eq,rQ]
def Je(ks:List Str):List Str:=ks.mergeSort leB
theorem Vn(ks:List Str):(Je ks).Perm ks:=List.mergeSort_perm ks leB
theorem Jn{k:Str}:k∈Je ks↔k∈ks:=by grind [Vn]
theorem Xd(ks:List Str):aL (Je ks)=aL ks:=(Vn ks).length_eq
def M9(h:ss.Perm ks):ss.mergeSort leB=Je ks:=mergeSort_of_perm h
theorem UW{w:World}{base:Nat}{v:Value}(e:TypeId)(h:w.ownsRow base e 1 v (aL ss) (ss.map encStr))(hS:∀g,base<=g->g<w.heap.size->Hp w g->S g)(hs:∀s∈ss,aL s<=9223372036854775807) :
    ∃A c,v=.slice A (aL ss) c/\Rep S w (Ee ss) [.slice A (aL ss) c]:=by
  have hr:∀(l:List Str),(∀s∈l,aL s<=9223372036854775807)->RepL S w (l.map Uj) (l.map encStr):=by
    intro l
    induction l with
    | nil=>grind [RepL.nil_mk]
    | cons s l ih =>
      intro hl;have:=RepL.cons_mk (Rep.lit_mk (S:=S) (w:=w) (v:=.string<|bs s)<|hl s Da)<|ih λx hx=>hl x wM;exact this
  rcases h.2 with ⟨rfl,h0⟩|⟨g,cap,cur,rfl,h1,h2,h3,h4,h5,h6⟩
  ·have : ss = [] := by grind
   subst this;exact⟨none,0,O,Rep.nil_slice 0 Aa none⟩
  refine⟨_, cap, O, Rep.slice_mk Da h3 h4 λ_ => ⟨_, O, _, λi hi => ⟨?_, ?_⟩, hr ss hs⟩⟩
  ·rw[Te, Nat.zero_add, cell_of_row w g i cur e (0, 0) h2]
   grind
  exact hS g h1 (Pa h2) ⟨cur,e,h2⟩
section
variable {P:Program}{R:Exit->Act->World->Prop}{n:Nat}{k:Kt}{s:Nat->Value}{w w0:World}{ops rest:List Oper}{Ds:List Nat}{bs_:List (Nat × Obj)}
variable {d:Nat}{ty:TypeId}{pos:String}{aft:Array Edge}{g:Option (Nat × Bool)}
def o_mv{x:Operand}(h:Og P R n ops k rest (Ic s d (ev n s x)) w)(hw:Ka ops n s ⟨some d,.move x,ty,pos,aft,g⟩=true:=by rfl):Og P R n ops k (⟨some d,.move x,ty,pos,aft,g⟩::rest) s w:=Ba (Zn rfl) h hw
def o_as{x:Operand}(h:Og P R n ops k rest (Ic s d (ev n s x)) w)(hw:Ka ops n s ⟨some d,.assign x,ty,pos,aft,g⟩=true:=by rfl):Og P R n ops k (⟨some d,.assign x,ty,pos,aft,g⟩::rest) s w:=Ba (Un rfl) h hw
def n_cr{id:Nat}{l:List Oper}{y:Code}(h:Og P R n l (.seq y k) l s w):Cg P R n (.seq (.region id l.toArray false) y) k s w:=Wi (Be h)
def n_ns{y:Code}(h:Cg P R n y k s w):Og P R n ops (.seq y k) [] s w:=Fk (Vh h)
def n_nc{id:Nat}{l:List Oper}{y:Code}(h:Og P R n l (.seq y k) l s w):Og P R n ops (.seq (.seq (.region id l.toArray false) y) k) [] s w:=Fk (Vh<|Wi<|Be h)
def n_fs{c:Operand}{x y:Code}(hc:ev n s c=.bool false)(h:Cg P R n y k s w):Cg P R n (.cond c x .skip) (.seq y k) s w:=Zo hc (Gw<|Vh h)
def Vg{f:FuncId}{args:Array Value}{w':World}{val:Value}{op:Op}(hF:FR w0 Ds bs_ w')(hc:Calls P f args w' (Za λv w''=>v=val/\Same [] w' w''))(hrun:(execOp (ev n s) ⟨some d,op,ty,pos,aft,g⟩).run P w=.ok (.enter f args) w')
    (h:∀w'',FR w0 Ds bs_ w''->Og P R n ops k rest (Ic s d val) w'') (hw:Ka ops n s ⟨some d,op,ty,pos,aft,g⟩=true:=by rfl):Og P R n ops k (⟨some d,op,ty,pos,aft,g⟩::rest) s w :=
  Xb hc hrun (λv w'' hq=>by obtain⟨rfl,hE⟩:=hq;exact h w''<|hF.ext hE) hw
end
section
variable {A B C D E F G H I J:Prop}
def ae1(a:A:=by rfl):A/\True:=⟨a,trivial⟩
def ae2(a:A:=by rfl)(b:B:=by rfl):A/\B/\True:=⟨a,b,trivial⟩
def ae3(a:A:=by rfl)(b:B:=by rfl)(c:C:=by rfl):A/\B/\C/\True:=⟨a,b,c,trivial⟩
def Fz(a:A:=by rfl)(b:B:=by rfl)(c:C:=by rfl)(d:D:=by rfl):A/\B/\C/\D/\True:=⟨a,b,c,d,trivial⟩
def ae5(a:A:=by rfl)(b:B:=by rfl)(c:C:=by rfl)(d:D:=by rfl)(e:E:=by rfl):A/\B/\C/\D/\E/\True:=⟨a,b,c,d,e,trivial⟩
def ae6(a:A:=by rfl)(b:B:=by rfl)(c:C:=by rfl)(d:D:=by rfl)(e:E:=by rfl)(f:F:=by rfl):A/\B/\C/\D/\E/\F/\True:=⟨a,b,c,d,e,f,trivial⟩
def ae7(a:A:=by rfl)(b:B:=by rfl)(c:C:=by rfl)(d:D:=by rfl)(e:E:=by rfl)(f:F:=by rfl)(g:G:=by rfl):A/\B/\C/\D/\E/\F/\G/\True:=⟨a,b,c,d,e,f,g,trivial⟩
def ae8(a:A:=by rfl)(b:B:=by rfl)(c:C:=by rfl)(d:D:=by rfl)(e:E:=by rfl)(f:F:=by rfl)(g:G:=by rfl)(h:H:=by rfl):A/\B/\C/\D/\E/\F/\G/\H/\True:=⟨a,b,c,d,e,f,g,h,trivial⟩
def ae9(a:A:=by rfl)(b:B:=by rfl)(c:C:=by rfl)(d:D:=by rfl)(e:E:=by rfl)(f:F:=by rfl)(g:G:=by rfl)(h:H:=by rfl)(i:I:=by rfl):A/\B/\C/\D/\E/\F/\G/\H/\I/\True:=⟨a,b,c,d,e,f,g,h,i,trivial⟩
end
section
variable {P:Program}{n:Nat}{k:Kt}{s:Nat->Value}{w:World}{Q:Value->World->Prop}{fn:Func}
def rt1{t:Nat}{v:Value}(hq:Q v w)(h:fn.results=#[.tmp t]:=by rfl)(hv:ev n s (.tmp t)=v:=by rfl):Cg P (bodyPost P fn (Za Q)) n .ret k s w:=Rf (Yd<|Nc (JP h hv) hq)
end
section
variable {P:Program}{R:Exit->Act->World->Prop}{n:Nat}{kt:Kt}{s:Nat->Value}{w:World}{ops:List Oper}{zs:Lt}{C:World->Prop}{rest:Ord}{i d:Nat}{ty:TypeId}{pos:String}{aft:Array Edge}{g:Option (Nat × Bool)}
def f_mv{x:Operand}(hi:ops[i]? = some ⟨some d,.move x,ty,pos,aft,g⟩)(v:Value)(h:Dg P R n ops kt zs rest C (Ic s d v) w)(hv:ev n s x=v:=by rfl)(hw:Ka ops n s ⟨some d,.move x,ty,pos,aft,g⟩=true:=by rfl):Dg P R n ops kt zs (.free i rest) C s w:=Wl hi (λ_ _=>Zn hv) (λ_ _=>Zn hv) h hw
def f_as{x:Operand}(hi:ops[i]? = some ⟨some d,.assign x,ty,pos,aft,g⟩)(v:Value)(h:Dg P R n ops kt zs rest C (Ic s d v) w)(hv:ev n s x=v:=by rfl)(hw:Ka ops n s ⟨some d,.assign x,ty,pos,aft,g⟩=true:=by rfl):Dg P R n ops kt zs (.free i rest) C s w:=Wl hi (λ_ _=>Un hv) (λ_ _=>Un hv) h hw
end
section
variable {P:Program}{R:Exit->Act->World->Prop}{n:Nat}{k:Kt}{s:Nat->Value}{w w0:World}{ops rest:List Oper}{Ds:List Nat}{bs_:List (Nat × Obj)}
variable {d:Nat}{ty:TypeId}{pos:String}{aft:Array Edge}{g:Option (Nat × Bool)}
def X5(m:Nat){o:Obj}{op:Op}(hF:FR w0 Ds bs_ w)(hrun:(execOp (ev n s) ⟨some d,op,ty,pos,aft,g⟩).run P w=.ok (.value (.slice (some ⟨w.heap.size,0,none⟩) m m)) (w.alloc o))
    (h:∀b w',b=w.heap.size->FR w0 Ds ((b,o)::bs_) w'->Same [] w w'->Og P R n ops k rest (Ic s d (W b m m)) w')
    (hw:Ka ops n s ⟨some d,op,ty,pos,aft,g⟩=true:=by rfl):Og P R n ops k (⟨some d,op,ty,pos,aft,g⟩::rest) s w:=Wr (v:=λb=>W b m m) hF hrun h hw
def Js(m:Nat){C:World->Prop}{order:Ord}{zs:Lt}{i:Nat}{o:Obj}{op:Op}(hi:ops[i]? = some ⟨some d,op,ty,pos,aft,g⟩)(hF:FR w0 Ds bs_ w)(hrun:(execOp (ev n s) ⟨some d,op,ty,pos,aft,g⟩).run P w=.ok (.value (.slice (some ⟨w.heap.size,0,none⟩) m m)) (w.alloc o))
    (h:∀b w',b=w.heap.size->FR w0 Ds ((b,o)::bs_) w'->Same [] w w'->C w'/\Dg P R n ops k zs order C (Ic s d (W b m m)) w')
    (hw:Ka ops n s ⟨some d,op,ty,pos,aft,g⟩=true:=by rfl) (hz:zs.contains i=false:=by rfl):Dg P R n ops k zs (.act i order) C s w:=Y5 (v:=λb=>W b m m) hi hF hrun h hw hz
def f_callP{C:World->Prop}{order:Ord}{zs:Lt}{i:Nat}{f:FuncId}{args:Array Value}{w':World}{val:Value}{op:Op}(hF:FR w0 Ds bs_ w')(hc:Calls P f args w' (Za λv w''=>v=val/\Same [] w' w''))(hi:ops[i]? = some ⟨some d,op,ty,pos,aft,g⟩)
    (hrun:(execOp (ev n s) ⟨some d,op,ty,pos,aft,g⟩).run P w=.ok (.enter f args) w') (h:∀w'',FR w0 Ds bs_ w''->C w''/\Dg P R n ops k zs order C (Ic s d val) w'') (hw:Ka ops n s ⟨some d,op,ty,pos,aft,g⟩=true:=by rfl) (hz:zs.contains i=false:=by rfl):Dg P R n ops k zs (.act i order) C s w :=
  Nr hi hc hrun (λv w'' hq=>by obtain⟨rfl,hE⟩:=hq;exact h w''<|hF.ext hE) hw hz
end
def Eo{p:Prop}(h:p:=by simp[one]):p:=h
section
variable{P:Program}{R:Exit->Act->World->Prop}{n m:Nat}{ops:List Oper}{k:Kt}{zs:Lt}{C:World->Prop}{s:Nat->Value}{w:World}{l:List Nat}{i:Nat}{r:Ord}{B:Prop}
instance [h:Rn m (Dg P R n ops k zs (.free i (bQ l r)) C s w) B]:Rn m (Dg P R n ops k zs (bQ (i::l) r) C s w) B:=⟨h.r⟩
instance [h:Rn m (Dg P R n ops k zs r C s w) B]:Rn m (Dg P R n ops k zs (bQ [] r) C s w) B:=⟨h.r⟩
instance [h:Rn m (Dg P R n ops k zs (.act i (cQ l r)) C s w) B]:Rn m (Dg P R n ops k zs (cQ (i::l) r) C s w) B:=⟨h.r⟩
instance [h:Rn m (Dg P R n ops k zs r C s w) B]:Rn m (Dg P R n ops k zs (cQ [] r) C s w) B:=⟨h.r⟩
end
end Go.Scarf
