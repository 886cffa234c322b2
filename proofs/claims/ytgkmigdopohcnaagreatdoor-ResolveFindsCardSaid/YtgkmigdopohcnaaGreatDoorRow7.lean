/- A part of the proof. -/
import Derived.Test.YtgkmigdopohcnaaGreatDoorRe1
import Derived.Laws.CopyRow
import Derived.Lib.AppendZerosOnto
set_option linter.all false
set_option maxHeartbeats 8000000
set_option maxRecDepth 10000
namespace Go.Scarf
open Go.RowKit Go.Proofs Go.Proofs.Tryz
set_option maxRecDepth 100000
section
variable {H:Type}{enc:TypeId × Value->H}{W:World}{base:Nat}{sp:Nat->Bool}{held:Bool}
open Go.ChangeShapes Go.WideShapes Go.ChangeAt Go.Lib Go.Shelf
instance : Inhabited Mm:=⟨⟨[],noS⟩⟩
theorem cs67:prog.cellsOf 67=6:=by kernel_rfl
theorem mm_of{fuel:Nat}{cs:List Value}{x:DataW H × List MemPlace}(h:DataW.trod enc prog W base sp held fuel 67 cs=some x):∃q:Mm,Rep (λ_=>True) W (W4 q) cs:=by
  obtain⟨xs,n,rfl,-,hcl,hxl,hf⟩:=DataW.trod_struct underlying67 h;have hcl':cs.length=6:=hcl.trans cs67;have get:∀(i:Nat)(hi:i<2),xs[i]? = some (xs[i]'(by rw[hxl];exact hi)):=λi hi=>List.getElem?_eq_getElem _;have h0:=(hf 0 _ rfl).trans (get 0 Ba);have h1:=(hf 1 _ rfl).trans (get 1 Ba);obtain⟨a,ha⟩:=Uz h0;obtain⟨b,hb⟩:=Hv h1;refine⟨⟨a,b⟩,?_⟩;have e:cs=(cs.drop 0).take (prog.cellsOf 9)++((cs.drop 1).take (prog.cellsOf 27)++[]):=by
    rw[cs9,cs27]
    match cs,hcl' with
    | [_,_,_,_,_,_],_=>rfl
  rw[e];unfold W4;exact Rep.agg_mk (RepL.cons_mk ha (RepL.cons_mk hb RepL.nil_mk))
theorem CS{r:Reach}{b0:Nat}{v:Value}{d:DataW H}{q:List MemPlace}(hv:Value.okWide prog W r b0 36 v)(h:DataW.Trod enc prog W base sp held 36 v d q) :
    ∃(l:List Mm)(A:Option Addr)(c:Nat),v=.slice A l.length c/\Rep (λ_=>True) W (If l) [.slice A l.length c] :=
  ZW (g:=W4) bX cs67 (λn cs x h=>mm_of h) hv h
theorem rec36:prog.readableRec 36=true:=by kernel_rfl
theorem row36:36<prog.types.size:=of_decide_eq_true Ib
end
open Go.RowKit
def Rg(z:List Value):Nat->List Value
  | 0=>[]
  | k+1=>z++Rg z k
theorem Fl(z:List Value):∀k,(Rg z k).length=k*z.length
  | 0=>by simp[Rg]
  | k+1=>by rw[Rg,dQ,Fl z k,Nat.add_mul];omega
theorem V_(z:List Value):∀(k i:Nat)(h:i<k*z.length),(Rg z k)[i]? = z[i%z.length]?
  | 0,i,h=>by omega
  | k + 1, i, h => by
    rw[Rg];by_cases hi:i<z.length
    ·rw[List.getElem?_append_left hi,Nat.mod_eq_of_lt hi]
    rw[List.getElem?_append_right Ba, V_ z k (i-z.length) (by rw[Nat.add_mul]at h;omega)]
    congr 1
    conv=>rhs;rw[show i=(i-z.length)+z.length from by omega,Nat.add_mod_right]
theorem CB(z:List Value)(h:∀v∈z,v.oneCell'=true):∀k,∀v∈Rg z k,v.oneCell'=true
  | 0,v,hv=>by cases hv
  | k + 1, v, hv => by
    rw[Rg]at hv;rcases mQ.1 hv with h1|h1
    ·exact h v h1
    exact CB z h k v h1
theorem WA(z:List Value)(k:Nat):madeCells z.toArray (k*z.length)=(Rg z k).toArray:=by
  apply Array.ext
  ·simp[madeCells,Fl]
  intro i h1 h2;have hi:i<k*z.length:=by simpa[madeCells]using h1
  have hz:0<z.length:=Nat.pos_of_ne_zero λh=>by rw[h]at hi;omega
  have hm:i%z.length<z.length:=Nat.mod_lt _ hz;have h3:=V_ z k i hi;rw[List.getElem?_eq_getElem (by rw[Fl];exact hi),List.getElem?_eq_getElem hm]at h3;have h4:=lQ h3;simp[madeCells,h4,hm]
theorem Gt(z:List Value)(k:Nat):Builtin.zeroCells z.toArray k=(Rg z k).toArray:=by
  have:=WA z k;unfold madeCells at this;unfold Builtin.zeroCells;simpa using this
section
variable {P:Program}{R:Exit->Act->World->Prop}{n:Nat}{kt:Kt}{s:Nat->Value}{w w0:World}{ops rest:List Oper}{Ds:List Nat}{bs_:List (Nat × Obj)}
variable {d:Nat}{ty:TypeId}{pos:String}{aft:Array Edge}{g:Option (Nat × Bool)}{ρ:Operand->Value}{dst:Option Nat}
theorem B8{t e m bytes:Nat}{z:Value}{zl:List Value}{x y:Operand}{N:Nat}(hE:Elems P t e m bytes)(hz0:(P.info? e).map (·.zero)=some (some z))(hc:z.cells=zl.toArray)(hx:ρ x=J (N:Int))(hy:ρ y=J (N:Int))(h:N<=1000000000)(hb:bytes<=1000) :
    (execOp ρ ⟨dst,.makeSlice t x y,ty,pos,aft,g⟩).run P w=.ok (.value (.slice (some ⟨w.heap.size,0,none⟩) N N)) (w.alloc (.cells (Rg zl N).toArray e)):=by
  obtain⟨i,z',hi,hz,hs,hby,hzs⟩:=hE.info;rw[hi]at hz0;have ez:i.zero=some z:=by simpa using hz0
  have hle:(i.bytes:Int)*(N:Int)<=281474976710656:=by
    rw[hby];have:bytes*N<=1000*1000000000:=Nat.mul_le_mul hb h;have h2:((bytes*N:Nat):Int)<=281474976710656:=by omega
    rwa [Int.natCast_mul]at h2
  have hr:=run_make (P:=P) w t e i z hE.ht hi ez .i64 .i64 N N Ba (Int.le_refl _) hle Ba;have em:m=zl.length:=by
    rw[hz]at ez;rw[<-hzs,lQ ez,hc];simp
  rw[hs,Int.toNat_natCast,hc,em,WA]at hr;simp[execOp,hx,hy,hr]
def Ui(cur:List Value)(o:Nat)(cs:List Value):List Value:=cur.take o++(cs++cur.drop (o+cs.length))
theorem Ww{g o:Nat}{cur cs:List Value}{T:TypeId}(hg:w.heap[g]? = some (.cells cur.toArray T)):(w.setRow g (Ui cur o cs).toArray).heap[g]? = some (.cells (Ui cur o cs).toArray T)/\Same [g] w (w.setRow g (Ui cur o cs).toArray) :=
  ⟨setRow_heap w g _ _ T (0,0) hg,⟨rfl,rfl,rfl,by simp[World.setRow],λb _ hb=>setRow_other w g b _ (by simpa using hb)⟩⟩
theorem HE{t t2 e m bytes g o dLen dCap sLen sCap q:Nat}{a:Option Addr}{cur cs:List Value}{T:TypeId}(hE:Elems P t e m bytes)(hg:w.heap[g]? = some (.cells cur.toArray T))(hq:Nat.min sLen dLen=q)(hn:cs.length=q*m)
    (hsrc:q≠0->∃ad,a=some ad/\∀j u,cs[j]? = some u->w.cell? (ad.add j)=some u) (hfit:o+cs.length<=cur.length) (h1:∀v∈cs,v.oneCell'=true) :
    (Builtin.copy_ #[t,t2] ty #[.slice (some ⟨g,o,none⟩) dLen dCap,.slice a sLen sCap]).run P w=.ok (goInt q) (w.setRow g (Ui cur o cs).toArray):=by
  obtain⟨i,z,hi,-,hs,-,-⟩:=hE.info;have hst:=run_storeCells_at P g o T cs 0 cur.toArray w hg (by simpa using hfit) h1;have hst':(storeCells ⟨g,o,none⟩ cs).run P w=.ok () (w.setRow g (Ui cur o cs).toArray):=by
    rw[hst];simp[Ui,sQ]
  by_cases h0:q=0
  ·subst h0
   have e0:cs=[]:=List.eq_nil_of_length_eq_zero (by simpa using hn);subst e0;cases a with
   | none=>simp[Builtin.copy_,run_underlying hE.ht,Builtin.lenOf,Builtin.firstCells,sizeOf,typeInfo,hi,hq,hst']
   | some ad=>simp[Builtin.copy_,run_underlying hE.ht,Builtin.lenOf,Builtin.firstCells,sizeOf,typeInfo,hi,hq,hst',loadCells,loadCellsFrom]
  obtain⟨ad, rfl, hc⟩ := hsrc h0;have hl:=run_loadCells_list (P:=P) w ad cs hc;rw[hn]at hl;simp[Builtin.copy_,run_underlying hE.ht,Builtin.lenOf,Builtin.firstCells,sizeOf,typeInfo,hi,hq,hs,hl,hst']
theorem RR(i:Nat){x y:Operand}{t t2 e m bytes b o dLen dCap sLen sCap:Nat}{a:Option Addr}{cur:List Value}{T:TypeId}(cs:List Value)(q:Nat)(hE:Elems P t e m bytes)(hF:FR w0 Ds bs_ w)(hi:bs_[i]? = some (b,.cells cur.toArray T))(hx:ev n s x=.slice (some ⟨b,o,none⟩) dLen dCap)(hy:ev n s y=.slice a sLen sCap)(hq:Nat.min sLen dLen=q)(hn:cs.length=q*m)
    (hsrc:q≠0->∃ad,a=some ad/\∀j u,cs[j]? = some u->w.cell? (ad.add j)=some u) (hfit:o+cs.length<=cur.length) (h1:∀v∈cs,v.oneCell'=true)
    (h:∀w',FR w0 Ds (bs_.set i (b,.cells (Ui cur o cs).toArray T)) w'->Same [b] w w'->Og P R n ops kt rest (Ge s d (J (q:Int))) w')
    (hw:Wa ops n s ⟨some d,.call ⟨.builtin .copy,#[x,y],#[t,t2]⟩,ty,pos,aft,g⟩=true:=by rfl):Og P R n ops kt (⟨some d,.call ⟨.builtin .copy,#[x,y],#[t,t2]⟩,ty,pos,aft,g⟩::rest) s w:=by
  have hh:=hF.heap hi;have hr:=HE (ty:=ty) (t2:=t2) (sCap:=sCap) (dCap:=dCap) hE hh hq hn hsrc hfit h1;have hs:=Ww (o:=o) (cs:=cs) hh;refine Ja (v:=J (q:Int)) (w':=w.setRow b (Ui cur o cs).toArray) ?_ (h _ (hF.change i hi hs.2 hs.1) hs.2) hw;simp[execOp,resolve,invoke,builtin,hx,hy,hr,goInt]
theorem f_copy{C:World->Prop}{order:Ord}{zs:Lt}{ii:Nat}{x y:Operand}{t t2:Nat}(hii:ops[ii]? = some ⟨some d,.call ⟨.builtin .copy,#[x,y],#[t,t2]⟩,ty,pos,aft,g⟩)(i:Nat){e m bytes b o dLen dCap sLen sCap:Nat}{a:Option Addr}{cur:List Value}{T:TypeId}(cs:List Value)(q:Nat)(hE:Elems P t e m bytes)(hF:FR w0 Ds bs_ w)(hi:bs_[i]? = some (b,.cells cur.toArray T))(hx:ev n s x=.slice (some ⟨b,o,none⟩) dLen dCap)(hy:ev n s y=.slice a sLen sCap)(hq:Nat.min sLen dLen=q)(hn:cs.length=q*m)
    (hsrc:q≠0->∃ad,a=some ad/\∀j u,cs[j]? = some u->w.cell? (ad.add j)=some u) (hfit:o+cs.length<=cur.length) (h1:∀v∈cs,v.oneCell'=true)
    (h:∀w',FR w0 Ds (bs_.set i (b,.cells (Ui cur o cs).toArray T)) w'->Same [b] w w'->C w'/\Dg P R n ops kt zs order C (Ge s d (J (q:Int))) w')
    (hw:Wa ops n s ⟨some d,.call ⟨.builtin .copy,#[x,y],#[t,t2]⟩,ty,pos,aft,g⟩=true:=by rfl) (hz:zs.contains ii=false:=by rfl):Dg P R n ops kt zs (.act ii order) C s w:=by
  have hh:=hF.heap hi;have hr:=HE (ty:=ty) (t2:=t2) (sCap:=sCap) (dCap:=dCap) hE hh hq hn hsrc hfit h1;have hs:=Ww (o:=o) (cs:=cs) hh;have hrr:=h _ (hF.change i hi hs.2 hs.1) hs.2;refine Gu (v:=J (q:Int)) (w':=w.setRow b (Ui cur o cs).toArray) hii ?_ hrr.1 hrr.2 hw hz;simp[execOp,resolve,invoke,builtin,hx,hy,hr,goInt]
theorem f_appR{C:World->Prop}{order:Ord}{zs:Lt}{ii:Nat}{x y:Operand}{t:Nat}(hii:ops[ii]? = some ⟨some d,.call ⟨.builtin .append,#[x,y],#[t,t]⟩,ty,pos,aft,g⟩)(i:Nat){e m bytes b len c k c2:Nat}{a:Addr}{cur:List Value}(cs:List Value)(hE:Elems P t e m bytes)(hF:FR w0 Ds bs_ w)(hi:bs_[i]? = some (b,.cells cur.toArray e))(hx:ev n s x=.slice (some ⟨b,0,none⟩) len c)(hy:ev n s y=.slice (some a) k c2)(hn:cs.length=k*m)
    (hsrc:∀j u,cs[j]? = some u->w.cell? (a.add j)=some u) (hroom:len+k<=c) (hfit:len*m+cs.length<=cur.length) (h1:∀v∈cs,v.oneCell'=true)
    (h:∀w',FR w0 Ds (bs_.set i (b,.cells (Ui cur (len*m) cs).toArray e)) w'->Same [b] w w'->C w'/\Dg P R n ops kt zs order C (Ge s d (.slice (some ⟨b,0,none⟩) (len+k) c)) w')
    (hw:Wa ops n s ⟨some d,.call ⟨.builtin .append,#[x,y],#[t,t]⟩,ty,pos,aft,g⟩=true:=by rfl) (hz:zs.contains ii=false:=by rfl):Dg P R n ops kt zs (.act ii order) C s w:=by
  obtain⟨inf,z,hinf,-,hs_,-,-⟩:=hE.info;have hh:=hF.heap hi;have hr:=run_append_room (P:=P) w t ty e inf hE.ht hinf b len c cur.toArray hh a k c2 cs (by rw[hs_];exact hn) hsrc h1 hroom (by rw[hs_];simpa using hfit);rw[hs_]at hr;have hs:=Ww (o:=len*m) (cs:=cs) hh;have e1:(cur.toArray.toList.take (len*m)++cs++cur.toArray.toList.drop (len*m+cs.length)).toArray=(Ui cur (len*m) cs).toArray:=by simp[Ui]
  rw[e1]at hr;have hrr:=h _ (hF.change i hi hs.2 hs.1) hs.2;exact Gu hii (Bp hx hy hr) hrr.1 hrr.2 hw hz
theorem o_appZ{x y:Operand}{t tn e m bytes len c k:Nat}{z:Value}{zl:List Value}{A:Option Addr}(olds:List Value)(hE:Elems P t e m bytes)(hz0:(P.info? e).map (·.zero)=some (some z))(hc:z.cells=zl.toArray)(htn:P.underlying tn=some (.int .i64))(hF:FR w0 Ds bs_ w)(hx:ev n s x=.slice A len c)(hy:ev n s y=J (k:Int))(hl:olds.length=len*m)
    (hold:len≠0->∃a,A=some a/\∀j u,olds[j]? = some u->w.cell? (a.add j)=some u) (h0:0<k) (hm:0<m) (hg:c<len+k) (hb:(len+k)*bytes<=140737488355328) (h63:len+k<=1000000000)
    (h:∀b c' junk w',b=w.heap.size->len+k<=c'->c'<=maxLen->junk.length=(c'-(len+k))*m->FR w0 Ds ((b,.cells (olds++(Rg zl k++junk)).toArray e)::bs_) w'->Same [] w w'->Og P R n ops kt rest (Ge s d (.slice (some ⟨b,0,none⟩) (len+k) c')) w')
    (hw:Wa ops n s ⟨some d,.call ⟨.builtin .append,#[x,y],#[t,tn]⟩,ty,pos,aft,g⟩=true:=by rfl):Og P R n ops kt (⟨some d,.call ⟨.builtin .append,#[x,y],#[t,tn]⟩,ty,pos,aft,g⟩::rest) s w:=by
  obtain⟨inf,z',hi,hz,hs,hby,hzs⟩:=hE.info;rw[hi]at hz0;have ez:inf.zero=some z:=by simpa using hz0
  have em:m=zl.length:=by
    rw[hz]at ez;rw[<-hzs,lQ ez,hc];simp
  have hfo:(Builtin.firstCells inf.size len (.slice A len c)).run P w.drew=.ok olds.toArray w.drew:=by
    by_cases hl0:len=0
    ·subst hl0
     have e0:olds=[]:=List.eq_nil_of_length_eq_zero (by simpa using hl);subst e0;cases A <;> simp[Builtin.firstCells,loadCells,loadCellsFrom]
    obtain⟨a, rfl, hr⟩ := hold hl0;exact run_firstCells_some (P:=P) w.drew inf.size len a len c olds (by rw[hs];exact hl) (by simpa using hr)
  have hkb:k*inf.bytes<=281474976710656:=by
    rw[hby];have:k*bytes<=(len+k)*bytes:=Nat.mul_le_mul_right _ Ba;omega
  have hr:=Lib.run_append_grow_zeros (P:=P) w t tn ty e inf z .i64 .i64 hE.ht htn hi ez A len c olds hfo k h0 Ba hg Ba hkb (by rw[hby];exact growslice_fits Ba hb);rw[hc,Gt,Gt]at hr;have hge:=grownCap_ge w (len+k) c e;have hcm:grownCap w (len+k) c e<=maxLen:=grownCap_le_maxLen w (len+k) c e (by simp only[maxLen];omega);have hsm:Same [] w (w.drew.alloc (.cells (olds++(Rg zl k++Rg zl (grownCap w (len+k) c e-(len+k)))).toArray e)):=(Same.drew w).trans (Same.alloc w.drew _);have hFn:FR w0 Ds ((w.heap.size,.cells (olds++(Rg zl k++Rg zl (grownCap w (len+k) c e-(len+k)))).toArray e)::bs_) (w.drew.alloc (.cells (olds++(Rg zl k++Rg zl (grownCap w (len+k) c e-(len+k)))).toArray e)):=hF.drew.alloc _;refine Ja (v:=.slice (some ⟨w.heap.size,0,none⟩) (len+k) (grownCap w (len+k) c e)) ?_ (h _ _ _ _ O hge hcm (by rw[Fl,em]) hFn hsm) hw;have e1:olds.toArray++(Rg zl k).toArray++(Rg zl (grownCap w (len+k) c e-(len+k))).toArray=(olds++(Rg zl k++Rg zl (grownCap w (len+k) c e-(len+k)))).toArray:=by simp[sQ]
  rw[e1]at hr;simp[execOp,resolve,invoke,builtin,hx,hy,hr]
theorem ZX(i:Nat){x:Operand}{t e m bytes b o q c:Nat}{z:Value}{zl cur:List Value}{T:TypeId}(hE:Elems P t e m bytes)(hzv:∀w,(zeroValue e).run P w=.ok z w)(hc:z.cells=zl.toArray)(hzo:∀v∈zl,v.oneCell'=true)(hF:FR w0 Ds bs_ w)(hi:bs_[i]? = some (b,.cells cur.toArray T))(hx:ev n s x=.slice (some ⟨b,o,none⟩) q c)(hq:0<q)(hfit:o+(Rg zl q).length<=cur.length)
    (h:∀w',FR w0 Ds (bs_.set i (b,.cells (Ui cur o (Rg zl q)).toArray T)) w'->Same [b] w w'->Og P R n ops kt rest s w')
    (hw:Wa ops n s ⟨none,.call ⟨.builtin .clear,#[x],#[t]⟩,ty,pos,aft,g⟩=true:=by rfl):Og P R n ops kt (⟨none,.call ⟨.builtin .clear,#[x],#[t]⟩,ty,pos,aft,g⟩::rest) s w:=by
  have hh:=hF.heap hi;have hst:=run_storeCells_at P b o T (Rg zl q) 0 cur.toArray w hh (by simpa using hfit) (CB zl hzo q);have hst':(storeCells ⟨b,o,none⟩ (Rg zl q)).run P w=.ok () (w.setRow b (Ui cur o (Rg zl q)).toArray):=by
    rw[hst];simp[Ui,sQ]
  have hs:=Ww (o:=o) (cs:=Rg zl q) hh;refine o_valn (v:=.tuple #[]) (w':=w.setRow b (Ui cur o (Rg zl q)).toArray) ?_ (h _ (hF.change i hi hs.2 hs.1) hs.2) hw;obtain⟨q',rfl⟩:∃q',q=q'+1:=⟨q-1,by omega⟩;simp[execOp,resolve,invoke,builtin,hx,Builtin.clear_,run_underlying hE.ht,hzv,hc,Gt,hst']
end
theorem x_leqs{P:Program}{w:World}{ρ:Operand->Value}{dst:Option Nat}{ty:TypeId}{pos:String}{aft:Array Edge}{g:Option (Nat × Bool)}{t t':TypeId}{x y:Operand}{a b:Str}(hx:ρ x=I a)(hy:ρ y=I b) :
    (execOp ρ ⟨dst,.binOp .leq t x y t',ty,pos,aft,g⟩).run P w=.ok (.value (.bool (Ip a b || decide (a=b)))) w:=by
  have h1:Op.bytesLess (bs a).toList (bs b).toList=Ip a b:=by rw[Ol,Ol]
  have h2:=H9 a b;obtain⟨u,hu⟩:∃u,u=bs a:=⟨_,rfl⟩;obtain⟨v,hv⟩:∃v,v=bs b:=⟨_,rfl⟩;have hx':ρ x=.string u:=hx.trans (by rw[hu]);have hy':ρ y=.string v:=hy.trans (by rw[hv]);rw[<-hu,<-hv]at h1 h2;simp[execOp,hx',hy',Xj,binOp,Op.stringOp,h1,h2]
theorem MO{S:Nat->Prop}{w:World}{t:List Mm}{A:Option Addr}{n c:Nat}(h:Rep S w (If t) [.slice A n c]):t.length<=9223372036854775807:=by
  obtain⟨A',c',-,g1,g2,-⟩:=Rep.slice_inv h;rw[rQ]at g1;omega
structure MmOk (m:Mm):Prop where
  sd:SdOk m.sd
  pr:m.pr.length<=1000000000
  ks:m.sd.val.keys.length<=1000000000
theorem MmOk.nm{m:Mm}(h:MmOk m){x:Sv}{S:Nat->Prop}{w:World}(hx:Rep S w (Od m.sd) x.cells):x.v.n+x.v.m<=1000000000000:=by
  have h1:=Dd hx;have h2:=h.ks;have h3:=Ju m.sd.val;have h4:=Ll m.sd.val.items;have h5:=h.sd.sz;omega
theorem ZB{t:List Mm}{i:Nat}(hi:i<t.length)(hm:Gm t[i]=true)(ho:∀j,i=j+1->∀h:j<t.length,(Ip t[i].pr t[j].pr || decide (t[i].pr=t[j].pr))=false):Dp t i=true:=by
  unfold Dp;rw[List.getElem?_eq_getElem hi];simp only[hm,Bool.true_and];cases i with
  | zero=>rfl
  | succ j =>
    simp only;rw[List.getElem?_eq_getElem (by omega:j<t.length)];have:=ho j rfl Ba;simp only[Bool.or_eq_false_iff,Cn,decide_eq_false_iff_not]at this;show Ip t[j].pr t[j+1].pr=true;rw[Cn,decide_eq_true_eq];rcases Decidable.em (t[j].pr<t[j+1].pr)with h|h
    ·exact h
    exact absurd (X7 this.1 h) this.2
theorem JX{t:List Mm}{i:Nat}(hi:i<t.length)(hm:Gm t[i]=false):Dp t i=false:=by
  unfold Dp;rw[List.getElem?_eq_getElem hi];simp[hm]
theorem ST{t:List Mm}{j:Nat}(hi:j+1<t.length)(h:(Ip t[j+1].pr t[j].pr || decide (t[j+1].pr=t[j].pr))=true):Dp t (j+1)=false:=by
  unfold Dp;rw[List.getElem?_eq_getElem hi];simp only;rw[List.getElem?_eq_getElem (by omega:j<t.length),Bool.and_eq_false_iff];refine .inr ?_;show Ip t[j].pr t[j+1].pr=false;rw[Cn,decide_eq_false_iff_not];intro hlt;rw[Bool.or_eq_true,Cn,decide_eq_true_eq,decide_eq_true_eq]at h;rcases h with h|h
  ·exact Xz (Zo h hlt)
  rw[h]at hlt;exact Xz hlt
theorem C7{t:List Mm}{i:Nat}(hi:i<t.length)(h:Dp t i=false):Df t=false:=by
  unfold Df;rw[Bool.and_eq_false_iff,List.all_eq_false];exact .inl ⟨i,List.mem_range.2 hi,by simp[h]⟩
theorem NH{t:List Mm}(h:∀i<t.length,Dp t i=true):Df t=decide ((t.length:Int)<=256):=by
  unfold Df;rw[List.all_eq_true.2 λi hi=>h i (List.mem_range.1 hi),Bool.true_and];rw[decide_eq_decide];omega
theorem memo_c(m:Mm)(x:Sv)(S:Nat->Prop)(w0:World)(hX:Rep S w0 (Od m.sd) x.cells)(hm:MmOk m)(hG:Gl w0):Calls prog 36 #[.agg (Gr m.pr x).toArray] w0 (Pc λv w'=>v=.bool (Gm m)/\Same [] w0 w'):=by
 have hx:=Dd hX;refine Ea func36 O ntmps36 Db (Rb _) ?_;have hF:=FR.start w0 [];refine Da (Le hF O ?_);rintro b1 w hb1 hF -;refine Aa (Jb O) (Qb (Aa (Ob Nm O) (Tb (Rm iZ O hF.F 0 O O) ?_)));refine Ya (D8 m.pr (by have:=hm.pr;omega) _ (hG.ext hF.same)) (Ma FU O O) ?_;rintro _ w ⟨nv,rfl,hE⟩;have hF:=hF.ext hE;refine Aa (Ri O) (Aa (Gj O O) (Aa (Jl O O) (Aa (Lb O) (Aa (Jb O) (Qb (Aa (Dc O) (Aa (Dc O) ?_)))))));refine Rc (d:=12) O (λhg0=>?_) (λhg0=>?_);refine Aa (Ob Wj O) (Ja (v:=.agg (x.cells).toArray) (Xa (l:=x.cells) bZ nZ O O (hF.part 0 1 O O)) ?_);refine Oa hF (EG m.sd x 0 S _ (hF.rep hX) hm.sd (hG.ext hF.same)) (Ra GV O O O) ?_;intro w hF;refine Aa (Yb O O) (Aa (Dc O) ?_);refine Rc (d:=17) O (λhg1=>?_) (λhg1=>?_);refine Aa (Ob Wj O) (Aa (Ob Ni O) (Tb (D6 eZ O hF.F 0 O O) (Aa (Dc O) ?_)));refine Rc (d:=21) O (λhg2=>?_) (λhg2=>?_);refine Ia (Ia (Ia (Ia (Aa (Yb O O) (Aa (Yb O O) (Aa (Jb O) (Ca ?_)))))));refine Hc (v:=.bool true) O O ⟨congrArg Value.bool ?_,hF.same⟩;have h1:=hx.1;unfold Gm;simp_all;refine Aa (Ob Wj O) (Aa (Ob Xe O) (Ja (v:=.agg (x.v.cells).toArray) (Xa (l:=x.v.cells) aZ mZ O O (hF.part 0 2 O O)) ?_));refine Oa hF (MX m.sd.val x.v S _ (hF.rep hx.2.2.2.2) (hm.nm hX)) (Ma en_61 O O) ?_;intro w hF;refine Aa (Bc O O) (Aa (Yb O O) (Aa (Jb O) (Ca ?_)));refine Hc (v:=.bool _) O O ⟨congrArg Value.bool ?_,hF.same⟩;have h1:=hx.1;unfold Gm;simp_all;refine Ia (Ia (Ia (Ia (Ia (Ia (Ia (Ia (Ia (Aa (Bc O O) (Aa (Jb O) (Ca ?_)))))))))));refine Hc (v:=.bool false) O O ⟨congrArg Value.bool ?_,hF.same⟩;have h1:=hx.1;unfold Gm;simp_all;refine Ia (Ia (Ia (Aa (Bc O O) (Aa (Dc O) (Ia (Ia (Ia (Ia (Ia (Ia (Ia (Ia (Ia ?_)))))))))))));refine Aa (Bc O O) (Aa (Jb O) (Ca ?_));refine Hc (v:=.bool false) O O ⟨congrArg Value.bool ?_,hF.same⟩;have h1:=hx.1;unfold Gm;simp_all
theorem Tz(s:Sd)(x:Sv)(S:Nat->Prop)(w0:World)(hX:Rep S w0 (Od s) x.cells)(hs:SdOk s)(hG:Gl w0):Calls prog 42 #[.agg x.cells.toArray] w0 (Pc λv w'=>∃y:Sv,v=.agg y.cells.toArray/\Rep (Btw w0 w') w' (Od (Th s)) y.cells/\Same [] w0 w'):=by
 have hx:=Dd hX;refine Ea func42 O ntmps42 Db (Rb _) ?_;have hF:=FR.start w0 [];refine Da (Le hF O ?_);rintro b1 w hb1 hF -;refine Jc (cs:=#[.bool false,J 0,I [],aQ,aQ]) hF lX O ?_;rintro b2 w hb2 hF -;refine Ca (Fa (Da (Aa (Ob Ni O) (Tb (D6 eZ O hF.F 1 O O) (Aa (Oh O) (Ca ?_))))));refine Fe O O (λhc0=>?_) (λhc0=>?_);have h0:s.has=false:=by rw[<-hx.1];simpa using hc0
 refine Da (Ja (w':=w) (v:=.agg #[.bool false,J 0,I [],aQ,aQ]) Ib ?_);refine Xd hF nZ O O Qg ?_;rintro w hF -;refine Ca (Ab (Za (Ka (Uh O (l:=[.bool false,J 0,I [],aQ,aQ]) O bZ nZ O (hF.cellsAll 0 O)) ?_)));have e:Th s=noS:=by rw[Th,if_neg (by rw[h0];decide)]
 rw[e];exact⟨⟨false,O5⟩,O,Tm,hF.same⟩;have h0:s.has=true:=by rw[<-hx.1];simpa using hc0
 refine Na (Ga (Da (Aa (Ob Xe O) (Ja (v:=.agg (x.v.cells).toArray) (Xa (l:=x.v.cells) aZ mZ O O (hF.part 1 1 O O)) ?_))));refine Ya (SJ s.val hs.sz _ _ x.v.cells (hF.rep hx.2.2.2.2) hs.ok (hG.ext hF.same)) (Ma LZ O O) ?_;rintro _ w ⟨ct,rfl,hRt,hE⟩;obtain⟨q,rfl,-⟩:=Di hRt;have hYX:=RX.made (ids:=[b2,b1]) hF.same.size (λx hx=>hF.lt_ids (by simpa using hx)) hRt;have hF:=hF.ext hE;clear hE hRt;refine Ja (w':=w) (v:=.agg #[.bool true,J (q.k),I (q.t),.slice q.A q.n q.c,.slice q.B q.m q.e]) Ib (Xd hF nZ O O Qg ?_);intro w hF hE;have hYX:=hYX.store hE (by grind);refine Ca (Ab (Za (Ka (Uh O (l:=[.bool true,J (q.k),I (q.t),.slice q.A q.n q.c,.slice q.B q.m q.e]) O bZ nZ O (hF.cellsAll 0 O)) ?_)));have e:Th s=⟨true,Ms s.val⟩:=by rw[Th,if_pos h0]
 rw[e]
 ·exact⟨⟨true,q⟩,O,F3 (s:=⟨true,Ms s.val⟩) hYX.done,hF.same⟩
theorem Wn(t:List Mm)(A:Option Addr)(c:Nat)(S:Nat->Prop)(w0:World)(hX:Rep S w0 (If t) [.slice A t.length c])(hm:∀m∈t,MmOk m)(hG:Gl w0):Calls prog 13 #[.slice A t.length c] w0 (Pc λv w'=>v=.bool (Df t)/\Same [] w0 w'):=by
 have htl:=MO hX;refine Ea func13 O ntmps13 Db (Rb _) ?_;have hF:=FR.start w0 [];refine Da (Aa (Jb O) (Ca (Fa (Da (Aa (Wd O) (Aa (Ug bX O) (Aa (Gb O) (Ca (Va ?_)))))))));refine Tc (λμ σ w=>∃(i:Nat),μ=t.length-i/\(i<=t.length)/\(∀k<i,Dp t k=true)/\AllEq σ [(0,.slice A t.length c),(5,.slice A t.length c),(6,J ((t.length:Nat))),(7,J ((i:Int)))]/\FR w0 [] [] w) _ ⟨0,O,(Nat.zero_le _),Ba,Nr,hF⟩ ?_;rintro μ σ w ⟨i,rfl,hi,hall,hs,hF⟩;refine Cg.slots hs ?_;clear hs;intro σ;refine Da (Aa (Sl O O) (Ca (Fa ?_)));refine Pb O O (λhc0=>?_) (λhc0=>?_);refine Na (Ga (Fa (Va (Fa ?_))));have hil:i<t.length:=by omega
 refine Ha (Aa (Gb O) ?_);obtain⟨ad0,q0,hA0,hk0,hx0,hp0⟩:=hX.mm_elem (i:=i) (hil);refine Ja (v:=.pointer (some (ad0.add (i*6)))) (Sa (i:=(i:Int)) Qi O hA0 O Ba Ba) (Ja (v:=.agg #[I (t[i].pr),.bool (q0.h),J (q0.v.k),I (q0.v.t),.slice q0.v.A q0.v.n q0.v.c,.slice q0.v.B q0.v.m q0.v.e]) (Xa (l:=(Gr t[i].pr q0)) fZ pZ O O (hF.cells0 hk0)) ?_);refine Jc (cs:=#[I [],.bool false,J 0,I [],aQ,aQ]) hF oX O ?_;rintro b1 w hb1 hF -;refine Aa (Lb O) (Xd hF pZ O O Qg ?_);rintro w hF -;refine Ca (Fa ?_);refine Zc (zs:=.of []) (.free 0 (.act 1 (bQ [2,3,4,5,6,7,8,9,10,11,12,13,14,15,16,17] .nil))) hF ?_;intro w hF;refine Sf O (He fZ pZ O C0 0 O O) (Sc hF (memo_c t[i] q0 S _ (hF.rep hx0) (hm t[i] (eQ hil)) (hG.ext hF.same)) O (Ma en_36 O O) ?_);intro w hF;refine⟨hF,?_⟩;refine Fb O (Oh O) (Fb O (Dc O) ?_);refine QI (d:=15) O (λhg1=>?_) (λhg1=>?_);refine Kd O (Kd O ?_);refine Kd O (Kd O ?_);refine Kd O (Kd O ?_);refine Kd O (Kd O ?_);refine Kd O (Kd O ?_);refine Kd O (Kd O ?_);refine Kd O (Fb O (Yb O O) (Ac (Ga (Fd O (Da (Aa (Jb O) (Ca ?_)))))));refine Hc (v:=.bool false) O O ⟨congrArg Value.bool ?_,hF.same⟩;exact (C7 hil (JX hil (by simpa using hg1))).symm;refine Fb O (Gb O) (Fb O (Gz O O) (Fb O (Dc O) ?_));refine Qk (d:=18) O (λhg2=>?_) (λhg2=>?_);obtain⟨k,rfl⟩:∃k,i=k+1:=⟨i-1,by omega⟩;refine Fb O (Ob Nm O) (Sf O (Rm iZ O C0 0 O O) (Fb O (Wd O) (Fb O (Gb O) (Fb O (MV (((k:Nat):Int)) O O) ?_))));obtain⟨ad3,q3,hA3,hk3,hx3,hp3⟩:=hX.mm_elem (i:=k) Ba;refine Bb rfl (v:=.pointer (some (ad3.add (k*6)))) (λw hC=>Sa (i:=((k:Nat):Int)) Qi rfl hA3 rfl Ba Ba) (Bb rfl (v:=.pointer (some ((ad3.add (k*6)).add 0))) (λw hC=>Ed (a:=ad3.add (k*6)) Nm rfl) (Bb rfl (v:=I (t[k].pr)) (λw hC=>Ad iZ rfl (hC.cell0 (hk3 0 Db))) (Bb rfl (v:=.bool (Ip (t[(k+1:Nat)].pr) (t[k].pr) || decide ((t[(k+1:Nat)].pr:Str)=t[k].pr))) (λw hC=>x_leqs rfl rfl) (Fb rfl (Yb rfl rfl) (Fb rfl (Bc rfl rfl) (Ac (Ga ?_)))))))
 refine Fe O O (λhc1=>?_) (λhc1=>?_);refine Da (Aa (Jb O) (Ca ?_));refine Hc (v:=.bool false) O O ⟨congrArg Value.bool ?_,hF.same⟩;exact (C7 hil (ST hil (by simpa using hc1))).symm;refine Na (Cb (Ga (Ha (Aa (Bo (((k+1+1:Nat):Int)) O O) (Aa (Gb O) (Ua ?_))))));have hok:Dp t (k+1)=true:=ZB hil (by simpa using hg1) (λj e hj=>by have e2:k=j:=(Nat.succ.inj e);subst e2;simpa using hc1);refine Xb ⟨_,?_,k+1+1,rfl,Ba,(λj hj=>by rcases Nat.lt_succ_iff_lt_or_eq.1 hj with h|h;exact hall j h;rw[h];exact hok),Nr,hF.drop 1⟩;omega;refine Kd O (Kd O ?_);refine Kd O (Kd O ?_);refine Kd O (Kd O ?_);refine Kd O (Kd O ?_);refine Kd O (Fb O (Bc O O) (Fb O (Bc O O) (Ac (Ga (We O (Na (Cb (Ga (Ha (Aa (Bo (((i+1:Nat):Int)) O O) (Aa (Gb O) (Ua ?_))))))))))));have hok:Dp t i=true:=ZB hil (by simpa using hg1) (λj e hj=>absurd (show (0:Int)<(i:Int) by omega) hg2);refine Xb ⟨_,?_,i+1,rfl,Ba,(λj hj=>by rcases Nat.lt_succ_iff_lt_or_eq.1 hj with h|h;exact hall j h;rw[h];exact hok),Nr,hF.drop 1⟩;omega;refine Kc (Ec O ?_);refine Ga (Da (Aa (Wd O) (Aa (Ug bX O) (Aa (OV O O) (Aa (Jb O) (Ca ?_))))));refine Hc (v:=.bool _) O O ⟨congrArg Value.bool ?_,hF.same⟩;obtain rfl:i=t.length:=by omega
 exact (NH hall).symm
end Go.Scarf
