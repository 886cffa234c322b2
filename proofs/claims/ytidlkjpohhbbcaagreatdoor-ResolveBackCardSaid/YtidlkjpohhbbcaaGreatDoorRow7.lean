/- A part of the proof. -/
import Derived.Test.YtidlkjpohhbbcaaGreatDoorRe1
import Derived.Laws.CopyRow
import Derived.Lib.AppendZerosOnto
set_option linter.all false
set_option maxHeartbeats 8000000
set_option maxRecDepth 10000
namespace Go.Scarf
open Go.RowKit Go.Proofs Go.Proofs.Tryz
set_option maxRecDepth 100000
section
variable {H:Type}{enc:TypeId × Value->H}{W:World}{base:Nat}{sp:Nat->Bool}{held:Bool}
open Go.ChangeShapes Go.WideShapes Go.ChangeAt Go.Lib Go.Shelf
instance : Inhabited Mm:=⟨⟨[],noS⟩⟩
theorem cs44:prog.cellsOf 44=6:=by kernel_rfl
theorem mm_of{fuel:Nat}{cs:List Value}{x:DataW H × List MemPlace}(h:DataW.trod enc prog W base sp held fuel 44 cs=some x):∃q:Mm,Rep (λ_=>True) W (M5 q) cs:=by
  obtain⟨xs,n,rfl,-,hcl,hxl,hf⟩:=DataW.trod_struct underlying44 h;have hcl':cs.length=6:=hcl.trans cs44;have get:∀(i:Nat)(hi:i<2),xs[i]? = some (xs[i]'(by rw[hxl];exact hi)):=λi hi=>List.getElem?_eq_getElem _;have h0:=(hf 0 _ rfl).trans (get 0 Aa);have h1:=(hf 1 _ rfl).trans (get 1 Aa);obtain⟨a,ha⟩:=GD h0;obtain⟨b,hb⟩:=side_of h1;refine⟨⟨a,b⟩,?_⟩;have e:cs=(cs.drop 0).take (prog.cellsOf 9)++((cs.drop 1).take (prog.cellsOf 38)++[]):=by
    rw[cs9,cs38]
    match cs,hcl' with
    | [_,_,_,_,_,_],_=>rfl
  rw[e];unfold M5;exact Rep.agg_mk (RepL.cons_mk ha (RepL.cons_mk hb RepL.nil_mk))
theorem DY{r:Reach}{b0:Nat}{v:Value}{d:DataW H}{q:List MemPlace}(hv:Value.okWide prog W r b0 22 v)(h:DataW.Trod enc prog W base sp held 22 v d q) :
    ∃(l:List Mm)(A:Option Addr)(c:Nat),v=.slice A l.length c/\Rep (λ_=>True) W (Tf l) [.slice A l.length c] :=
  open_sl (g:=M5) dX cs44 (λn cs x h=>mm_of h) hv h
theorem rec22:prog.readableRec 22=true:=by kernel_rfl
theorem row22:22<prog.types.size:=of_decide_eq_true Ib
end
open Go.RowKit
def Gk(z:List Value):Nat->List Value
  | 0=>[]
  | k+1=>z++Gk z k
theorem Rl(z:List Value):∀k,(Gk z k).length=k*z.length
  | 0=>by simp[Gk]
  | k+1=>by rw[Gk,dQ,Rl z k,Nat.add_mul];omega
theorem VI(z:List Value):∀(k i:Nat)(h:i<k*z.length),(Gk z k)[i]? = z[i%z.length]?
  | 0,i,h=>by omega
  | k + 1, i, h => by
    rw[Gk];by_cases hi:i<z.length
    ·rw[List.getElem?_append_left hi,Nat.mod_eq_of_lt hi]
    rw[List.getElem?_append_right Aa, VI z k (i-z.length) (by rw[Nat.add_mul]at h;omega)]
    congr 1
    conv=>rhs;rw[show i=(i-z.length)+z.length from by omega,Nat.add_mod_right]
theorem OJ(z:List Value)(k:Nat):madeCells z.toArray (k*z.length)=(Gk z k).toArray:=by
  apply Array.ext
  ·simp[madeCells,Rl]
  intro i h1 h2;have hi:i<k*z.length:=by simpa[madeCells]using h1
  have hz:0<z.length:=Nat.pos_of_ne_zero λh=>by rw[h]at hi;omega
  have hm:i%z.length<z.length:=Nat.mod_lt _ hz;have h3:=VI z k i hi;rw[List.getElem?_eq_getElem (by rw[Rl];exact hi),List.getElem?_eq_getElem hm]at h3;have h4:=lQ h3;simp[madeCells,h4,hm]
theorem O0(z:List Value)(k:Nat):Builtin.zeroCells z.toArray k=(Gk z k).toArray:=by
  have:=OJ z k;unfold madeCells at this;unfold Builtin.zeroCells;simpa using this
section
variable {P:Program}{R:Exit->Act->World->Prop}{n:Nat}{kt:Kt}{s:Nat->Value}{w w0:World}{ops rest:List Oper}{Ds:List Nat}{bs_:List (Nat × Obj)}
variable {d:Nat}{ty:TypeId}{pos:String}{aft:Array Edge}{g:Option (Nat × Bool)}{ρ:Operand->Value}{dst:Option Nat}
theorem HC{t e m bytes:Nat}{z:Value}{zl:List Value}{x y:Operand}{N:Nat}(hE:Elems P t e m bytes)(hz0:(P.info? e).map (·.zero)=some (some z))(hc:z.cells=zl.toArray)(hx:ρ x=J (N:Int))(hy:ρ y=J (N:Int))(h:N<=1000000000)(hb:bytes<=1000) :
    (execOp ρ ⟨dst,.makeSlice t x y,ty,pos,aft,g⟩).run P w=.ok (.value (.slice (some ⟨w.heap.size,0,none⟩) N N)) (w.alloc (.cells (Gk zl N).toArray e)):=by
  obtain⟨i,z',hi,hz,hs,hby,hzs⟩:=hE.info;rw[hi]at hz0;have ez:i.zero=some z:=by simpa using hz0
  have hle:(i.bytes:Int)*(N:Int)<=281474976710656:=by
    rw[hby];have:bytes*N<=1000*1000000000:=Nat.mul_le_mul hb h;have h2:((bytes*N:Nat):Int)<=281474976710656:=by omega
    rwa [Int.natCast_mul]at h2
  have hr:=run_make (P:=P) w t e i z hE.ht hi ez .i64 .i64 N N Aa (Int.le_refl _) hle Aa;have em:m=zl.length:=by
    rw[hz]at ez;rw[<-hzs,lQ ez,hc];simp
  rw[hs,Int.toNat_natCast,hc,em,OJ]at hr;simp[execOp,hx,hy,hr]
def Gz(cur:List Value)(o:Nat)(cs:List Value):List Value:=cur.take o++(cs++cur.drop (o+cs.length))
theorem PI{g o:Nat}{cur cs:List Value}{T:TypeId}(hg:w.heap[g]? = some (.cells cur.toArray T)):(w.setRow g (Gz cur o cs).toArray).heap[g]? = some (.cells (Gz cur o cs).toArray T)/\Same [g] w (w.setRow g (Gz cur o cs).toArray) :=
  ⟨setRow_heap w g _ _ T (0,0) hg,⟨rfl,rfl,rfl,by simp[World.setRow],λb _ hb=>setRow_other w g b _ (by simpa using hb)⟩⟩
theorem NG{t t2 e m bytes g o dLen dCap sLen sCap q:Nat}{a:Option Addr}{cur cs:List Value}{T:TypeId}(hE:Elems P t e m bytes)(hg:w.heap[g]? = some (.cells cur.toArray T))(hq:Nat.min sLen dLen=q)(hn:cs.length=q*m)
    (hsrc:q≠0->∃ad,a=some ad/\∀j u,cs[j]? = some u->w.cell? (ad.add j)=some u) (hfit:o+cs.length<=cur.length) (h1:∀v∈cs,v.oneCell'=true) :
    (Builtin.copy_ #[t,t2] ty #[.slice (some ⟨g,o,none⟩) dLen dCap,.slice a sLen sCap]).run P w=.ok (goInt q) (w.setRow g (Gz cur o cs).toArray):=by
  obtain⟨i,z,hi,-,hs,-,-⟩:=hE.info;have hst:=run_storeCells_at P g o T cs 0 cur.toArray w hg (by simpa using hfit) h1;have hst':(storeCells ⟨g,o,none⟩ cs).run P w=.ok () (w.setRow g (Gz cur o cs).toArray):=by
    rw[hst];simp[Gz,sQ]
  by_cases h0:q=0
  ·subst h0
   have e0:cs=[]:=List.eq_nil_of_length_eq_zero (by simpa using hn);subst e0;cases a with
   | none=>simp[Builtin.copy_,run_underlying hE.ht,Builtin.lenOf,Builtin.firstCells,sizeOf,typeInfo,hi,hq,hst']
   | some ad=>simp[Builtin.copy_,run_underlying hE.ht,Builtin.lenOf,Builtin.firstCells,sizeOf,typeInfo,hi,hq,hst',loadCells,loadCellsFrom]
  obtain⟨ad, rfl, hc⟩ := hsrc h0;have hl:=run_loadCells_list (P:=P) w ad cs hc;rw[hn]at hl;simp[Builtin.copy_,run_underlying hE.ht,Builtin.lenOf,Builtin.firstCells,sizeOf,typeInfo,hi,hq,hs,hl,hst']
theorem o_copy(i:Nat){x y:Operand}{t t2 e m bytes b o dLen dCap sLen sCap:Nat}{a:Option Addr}{cur:List Value}{T:TypeId}(cs:List Value)(q:Nat)(hE:Elems P t e m bytes)(hF:FR w0 Ds bs_ w)(hi:bs_[i]? = some (b,.cells cur.toArray T))(hx:ev n s x=.slice (some ⟨b,o,none⟩) dLen dCap)(hy:ev n s y=.slice a sLen sCap)(hq:Nat.min sLen dLen=q)(hn:cs.length=q*m)
    (hsrc:q≠0->∃ad,a=some ad/\∀j u,cs[j]? = some u->w.cell? (ad.add j)=some u) (hfit:o+cs.length<=cur.length) (h1:∀v∈cs,v.oneCell'=true)
    (h:∀w',FR w0 Ds (bs_.set i (b,.cells (Gz cur o cs).toArray T)) w'->Same [b] w w'->Og P R n ops kt rest (Pe s d (J (q:Int))) w')
    (hw:Ya ops n s ⟨some d,.call ⟨.builtin .copy,#[x,y],#[t,t2]⟩,ty,pos,aft,g⟩=true:=by rfl):Og P R n ops kt (⟨some d,.call ⟨.builtin .copy,#[x,y],#[t,t2]⟩,ty,pos,aft,g⟩::rest) s w:=by
  have hh:=hF.heap hi;have hr:=NG (ty:=ty) (t2:=t2) (sCap:=sCap) (dCap:=dCap) hE hh hq hn hsrc hfit h1;have hs:=PI (o:=o) (cs:=cs) hh;refine Ia (v:=J (q:Int)) (w':=w.setRow b (Gz cur o cs).toArray) ?_ (h _ (hF.change i hi hs.2 hs.1) hs.2) hw;simp[execOp,resolve,invoke,builtin,hx,hy,hr,goInt]
theorem f_copy{C:World->Prop}{order:Ord}{zs:Lt}{ii:Nat}{x y:Operand}{t t2:Nat}(hii:ops[ii]? = some ⟨some d,.call ⟨.builtin .copy,#[x,y],#[t,t2]⟩,ty,pos,aft,g⟩)(i:Nat){e m bytes b o dLen dCap sLen sCap:Nat}{a:Option Addr}{cur:List Value}{T:TypeId}(cs:List Value)(q:Nat)(hE:Elems P t e m bytes)(hF:FR w0 Ds bs_ w)(hi:bs_[i]? = some (b,.cells cur.toArray T))(hx:ev n s x=.slice (some ⟨b,o,none⟩) dLen dCap)(hy:ev n s y=.slice a sLen sCap)(hq:Nat.min sLen dLen=q)(hn:cs.length=q*m)
    (hsrc:q≠0->∃ad,a=some ad/\∀j u,cs[j]? = some u->w.cell? (ad.add j)=some u) (hfit:o+cs.length<=cur.length) (h1:∀v∈cs,v.oneCell'=true)
    (h:∀w',FR w0 Ds (bs_.set i (b,.cells (Gz cur o cs).toArray T)) w'->Same [b] w w'->C w'/\Dg P R n ops kt zs order C (Pe s d (J (q:Int))) w')
    (hw:Ya ops n s ⟨some d,.call ⟨.builtin .copy,#[x,y],#[t,t2]⟩,ty,pos,aft,g⟩=true:=by rfl) (hz:zs.contains ii=false:=by rfl):Dg P R n ops kt zs (.act ii order) C s w:=by
  have hh:=hF.heap hi;have hr:=NG (ty:=ty) (t2:=t2) (sCap:=sCap) (dCap:=dCap) hE hh hq hn hsrc hfit h1;have hs:=PI (o:=o) (cs:=cs) hh;have hrr:=h _ (hF.change i hi hs.2 hs.1) hs.2;refine Xz (v:=J (q:Int)) (w':=w.setRow b (Gz cur o cs).toArray) hii ?_ hrr.1 hrr.2 hw hz;simp[execOp,resolve,invoke,builtin,hx,hy,hr,goInt]
theorem o_appZ{x y:Operand}{t tn e m bytes len c k:Nat}{z:Value}{zl:List Value}{A:Option Addr}(olds:List Value)(hE:Elems P t e m bytes)(hz0:(P.info? e).map (·.zero)=some (some z))(hc:z.cells=zl.toArray)(htn:P.underlying tn=some (.int .i64))(hF:FR w0 Ds bs_ w)(hx:ev n s x=.slice A len c)(hy:ev n s y=J (k:Int))(hl:olds.length=len*m)
    (hold:len≠0->∃a,A=some a/\∀j u,olds[j]? = some u->w.cell? (a.add j)=some u) (h0:0<k) (hm:0<m) (hg:c<len+k) (hb:(len+k)*bytes<=140737488355328) (h63:len+k<=1000000000)
    (h:∀b c' junk w',b=w.heap.size->len+k<=c'->c'<=maxLen->junk.length=(c'-(len+k))*m->FR w0 Ds ((b,.cells (olds++(Gk zl k++junk)).toArray e)::bs_) w'->Same [] w w'->Og P R n ops kt rest (Pe s d (.slice (some ⟨b,0,none⟩) (len+k) c')) w')
    (hw:Ya ops n s ⟨some d,.call ⟨.builtin .append,#[x,y],#[t,tn]⟩,ty,pos,aft,g⟩=true:=by rfl):Og P R n ops kt (⟨some d,.call ⟨.builtin .append,#[x,y],#[t,tn]⟩,ty,pos,aft,g⟩::rest) s w:=by
  obtain⟨inf,z',hi,hz,hs,hby,hzs⟩:=hE.info;rw[hi]at hz0;have ez:inf.zero=some z:=by simpa using hz0
  have em:m=zl.length:=by
    rw[hz]at ez;rw[<-hzs,lQ ez,hc];simp
  have hfo:(Builtin.firstCells inf.size len (.slice A len c)).run P w.drew=.ok olds.toArray w.drew:=by
    by_cases hl0:len=0
    ·subst hl0
     have e0:olds=[]:=List.eq_nil_of_length_eq_zero (by simpa using hl);subst e0;cases A <;> simp[Builtin.firstCells,loadCells,loadCellsFrom]
    obtain⟨a, rfl, hr⟩ := hold hl0;exact run_firstCells_some (P:=P) w.drew inf.size len a len c olds (by rw[hs];exact hl) (by simpa using hr)
  have hkb:k*inf.bytes<=281474976710656:=by
    rw[hby];have:k*bytes<=(len+k)*bytes:=Nat.mul_le_mul_right _ Aa;omega
  have hr:=Lib.run_append_grow_zeros (P:=P) w t tn ty e inf z .i64 .i64 hE.ht htn hi ez A len c olds hfo k h0 Aa hg Aa hkb (by rw[hby];exact growslice_fits Aa hb);rw[hc,O0,O0]at hr;have hge:=grownCap_ge w (len+k) c e;have hcm:grownCap w (len+k) c e<=maxLen:=grownCap_le_maxLen w (len+k) c e (by simp only[maxLen];omega);have hsm:Same [] w (w.drew.alloc (.cells (olds++(Gk zl k++Gk zl (grownCap w (len+k) c e-(len+k)))).toArray e)):=(Same.drew w).trans (Same.alloc w.drew _);have hFn:FR w0 Ds ((w.heap.size,.cells (olds++(Gk zl k++Gk zl (grownCap w (len+k) c e-(len+k)))).toArray e)::bs_) (w.drew.alloc (.cells (olds++(Gk zl k++Gk zl (grownCap w (len+k) c e-(len+k)))).toArray e)):=hF.drew.alloc _;refine Ia (v:=.slice (some ⟨w.heap.size,0,none⟩) (len+k) (grownCap w (len+k) c e)) ?_ (h _ _ _ _ O hge hcm (by rw[Rl,em]) hFn hsm) hw;have e1:olds.toArray++(Gk zl k).toArray++(Gk zl (grownCap w (len+k) c e-(len+k))).toArray=(olds++(Gk zl k++Gk zl (grownCap w (len+k) c e-(len+k)))).toArray:=by simp[sQ]
  rw[e1]at hr;simp[execOp,resolve,invoke,builtin,hx,hy,hr]
end
theorem x_leqs{P:Program}{w:World}{ρ:Operand->Value}{dst:Option Nat}{ty:TypeId}{pos:String}{aft:Array Edge}{g:Option (Nat × Bool)}{t t':TypeId}{x y:Operand}{a b:Str}(hx:ρ x=I a)(hy:ρ y=I b) :
    (execOp ρ ⟨dst,.binOp .leq t x y t',ty,pos,aft,g⟩).run P w=.ok (.value (.bool (At a b || decide (a=b)))) w:=by
  have h1:Op.bytesLess (bs a).toList (bs b).toList=At a b:=by rw[Hm,Hm]
  have h2:=LB a b;obtain⟨u,hu⟩:∃u,u=bs a:=⟨_,rfl⟩;obtain⟨v,hv⟩:∃v,v=bs b:=⟨_,rfl⟩;have hx':ρ x=.string u:=hx.trans (by rw[hu]);have hy':ρ y=.string v:=hy.trans (by rw[hv]);rw[<-hu,<-hv]at h1 h2;simp[execOp,hx',hy',Vk,binOp,Op.stringOp,h1,h2]
theorem PU{S:Nat->Prop}{w:World}{t:List Mm}{A:Option Addr}{n c:Nat}(h:Rep S w (Tf t) [.slice A n c]):t.length<=9223372036854775807:=by
  obtain⟨A',c',-,g1,g2,-⟩:=Rep.slice_inv h;rw[rQ]at g1;omega
structure MmOk (m:Mm):Prop where
  sd:SdOk m.sd
  pr:m.pr.length<=1000000000
  ks:m.sd.val.keys.length<=1000000000
theorem MmOk.nm{m:Mm}(h:MmOk m){x:Sv}{S:Nat->Prop}{w:World}(hx:Rep S w (Se m.sd) x.cells):x.v.n+x.v.m<=1000000000000:=by
  have h1:=Ze hx;have h2:=h.ks;have h3:=Bm m.sd.val;have h4:=Mj m.sd.val.items;have h5:=h.sd.sz;omega
theorem SF{t:List Mm}{i:Nat}(hi:i<t.length)(hm:In t[i]=true)(ho:∀j,i=j+1->∀h:j<t.length,(At t[i].pr t[j].pr || decide (t[i].pr=t[j].pr))=false):Er t i=true:=by
  unfold Er;rw[List.getElem?_eq_getElem hi];simp only[hm,Bool.true_and];cases i with
  | zero=>rfl
  | succ j =>
    simp only;rw[List.getElem?_eq_getElem (by omega:j<t.length)];have:=ho j rfl Aa;simp only[Bool.or_eq_false_iff,Zr,decide_eq_false_iff_not]at this;show At t[j].pr t[j+1].pr=true;rw[Zr,decide_eq_true_eq];rcases Decidable.em (t[j].pr<t[j+1].pr)with h|h
    ·exact h
    exact absurd (FP this.1 h) this.2
theorem okMm_no{t:List Mm}{i:Nat}(hi:i<t.length)(hm:In t[i]=false):Er t i=false:=by
  unfold Er;rw[List.getElem?_eq_getElem hi];simp[hm]
theorem YW{t:List Mm}{j:Nat}(hi:j+1<t.length)(h:(At t[j+1].pr t[j].pr || decide (t[j+1].pr=t[j].pr))=true):Er t (j+1)=false:=by
  unfold Er;rw[List.getElem?_eq_getElem hi];simp only;rw[List.getElem?_eq_getElem (by omega:j<t.length),Bool.and_eq_false_iff];refine .inr ?_;show At t[j].pr t[j+1].pr=false;rw[Zr,decide_eq_false_iff_not];intro hlt;rw[Bool.or_eq_true,Zr,decide_eq_true_eq,decide_eq_true_eq]at h;rcases h with h|h
  ·exact OC (E0 h hlt)
  rw[h]at hlt;exact OC hlt
theorem V_{t:List Mm}{i:Nat}(hi:i<t.length)(h:Er t i=false):Bh t=false:=by
  unfold Bh;rw[Bool.and_eq_false_iff,List.all_eq_false];exact .inl ⟨i,List.mem_range.2 hi,by simp[h]⟩
theorem CM{t:List Mm}(h:∀i<t.length,Er t i=true):Bh t=decide ((t.length:Int)<=256):=by
  unfold Bh;rw[List.all_eq_true.2 λi hi=>h i (List.mem_range.1 hi),Bool.true_and];rw[decide_eq_decide];omega
theorem memo_c(m:Mm)(x:Sv)(S:Nat->Prop)(w0:World)(hX:Rep S w0 (Se m.sd) x.cells)(hm:MmOk m)(hG:Gl w0):Calls prog 46 #[.agg (Cr m.pr x).toArray] w0 (Oc λv w'=>v=.bool (In m)/\Same [] w0 w'):=by
 have hx:=Ze hX;refine Ea func46 O ntmps46 Bb (Tb _) ?_;have hF:=FR.start w0 [];refine Da (Df hF O ?_);rintro b1 w hb1 hF -;refine Ba (Kb O) (Ob (Ba (Rb Fo O) (Yb (Tn fZ O hF.F 0 O O) ?_)));refine Ta (JC m.pr (by have:=hm.pr;omega) _ (hG.ext hF.same)) (Ma en_78 O O) ?_;rintro _ w ⟨nv,rfl,hE⟩;have hF:=hF.ext hE;refine Ba (Aj O) (Ba (Nh O O) (Ba (Xn O O) (Ba (Gb O) (Ba (Kb O) (Ob (Ba (Sc O) (Ba (Sc O) ?_)))))));refine Je (d:=12) O (λhg0=>?_) (λhg0=>?_);refine Ba (Rb Uk O) (Ia (v:=.agg (x.cells).toArray) (Za (l:=x.cells) bZ pZ O O (hF.part 0 1 O O)) ?_);refine Qa hF (OL m.sd x 0 S _ (hF.rep hX) hm.sd (hG.ext hF.same)) (Ua TW O O O) ?_;intro w hF;refine Ba (Fc O O) (Ba (Sc O) ?_);refine Je (d:=17) O (λhg1=>?_) (λhg1=>?_);refine Ba (Rb Uk O) (Ba (Rb Sk O) (Yb (OE cZ O hF.F 0 O O) (Ba (Sc O) ?_)));refine Je (d:=21) O (λhg2=>?_) (λhg2=>?_);refine Ha (Ha (Ha (Ha (Ba (Fc O O) (Ba (Fc O O) (Ba (Kb O) (Ca ?_)))))));refine Lc (v:=.bool true) O O ⟨congrArg Value.bool ?_,hF.same⟩;have h1:=hx.1;unfold In;simp_all;refine Ba (Rb Uk O) (Ba (Rb Ih O) (Ia (v:=.agg (x.v.cells).toArray) (Za (l:=x.v.cells) aZ oZ O O (hF.part 0 2 O O)) ?_));refine Qa hF (zeroB_c m.sd.val x.v S _ (hF.rep hx.2.2.2.2) (hm.nm hX)) (Ma en_79 O O) ?_;intro w hF;refine Ba (Pc O O) (Ba (Fc O O) (Ba (Kb O) (Ca ?_)));refine Lc (v:=.bool _) O O ⟨congrArg Value.bool ?_,hF.same⟩;have h1:=hx.1;unfold In;simp_all;refine Ha (Ha (Ha (Ha (Ha (Ha (Ha (Ha (Ha (Ba (Pc O O) (Ba (Kb O) (Ca ?_)))))))))));refine Lc (v:=.bool false) O O ⟨congrArg Value.bool ?_,hF.same⟩;have h1:=hx.1;unfold In;simp_all;refine Ha (Ha (Ha (Ba (Pc O O) (Ba (Sc O) (Ha (Ha (Ha (Ha (Ha (Ha (Ha (Ha (Ha ?_)))))))))))));refine Ba (Pc O O) (Ba (Kb O) (Ca ?_));refine Lc (v:=.bool false) O O ⟨congrArg Value.bool ?_,hF.same⟩;have h1:=hx.1;unfold In
 simp_all
theorem K3(s:Sd)(x:Sv)(S:Nat->Prop)(w0:World)(hX:Rep S w0 (Se s) x.cells)(hs:SdOk s)(hG:Gl w0):Calls prog 58 #[.agg x.cells.toArray] w0 (Oc λv w'=>∃y:Sv,v=.agg y.cells.toArray/\Rep (Btw w0 w') w' (Se (Zj s)) y.cells/\Same [] w0 w'):=by
 have hx:=Ze hX;refine Ea func58 O ntmps58 Bb (Tb _) ?_;have hF:=FR.start w0 [];refine Da (Df hF O ?_);rintro b1 w hb1 hF -;refine Gc (cs:=#[.bool false,J 0,I [],aQ,aQ]) hF tX O ?_;rintro b2 w hb2 hF -;refine Ca (Fa (Da (Ba (Rb Sk O) (Yb (OE cZ O hF.F 1 O O) (Ba (Wi O) (Ca ?_))))));refine He O O (λhc0=>?_) (λhc0=>?_);have h0:s.has=false:=by rw[<-hx.1];simpa using hc0
 refine Da (Ia (w':=w) (v:=.agg #[.bool false,J 0,I [],aQ,aQ]) Ib ?_);refine Ke hF pZ O O Oi ?_;rintro w hF -;refine Ca (Xa (Va (Ka (Ni O (l:=[.bool false,J 0,I [],aQ,aQ]) O bZ pZ O (hF.cellsAll 0 O)) ?_)));have e:Zj s=noS:=by rw[Zj,if_neg (by rw[h0];decide)]
 rw[e];exact⟨⟨false,O_⟩,O,Ho,hF.same⟩;have h0:s.has=true:=by rw[<-hx.1];simpa using hc0
 refine Na (Ga (Da (Ba (Rb Ih O) (Ia (v:=.agg (x.v.cells).toArray) (Za (l:=x.v.cells) aZ oZ O O (hF.part 1 1 O O)) ?_))));refine Ta (RP s.val hs.sz _ _ x.v.cells (hF.rep hx.2.2.2.2) hs.ok (hG.ext hF.same)) (Ma en_93 O O) ?_;rintro _ w ⟨ct,rfl,hRt,hE⟩;obtain⟨q,rfl,-⟩:=Wh hRt;have hYX:=RX.made (ids:=[b2,b1]) hF.same.size (λx hx=>hF.lt_ids (by simpa using hx)) hRt;have hF:=hF.ext hE;clear hE hRt;refine Ia (w':=w) (v:=.agg #[.bool true,J (q.k),I (q.t),.slice q.A q.n q.c,.slice q.B q.m q.e]) Ib (Ke hF pZ O O Oi ?_);intro w hF hE;have hYX:=hYX.store hE (by grind);refine Ca (Xa (Va (Ka (Ni O (l:=[.bool true,J (q.k),I (q.t),.slice q.A q.n q.c,.slice q.B q.m q.e]) O bZ pZ O (hF.cellsAll 0 O)) ?_)));have e:Zj s=⟨true,Vt s.val⟩:=by rw[Zj,if_pos h0]
 rw[e]
 ·exact⟨⟨true,q⟩,O,S5 (s:=⟨true,Vt s.val⟩) hYX.done,hF.same⟩
theorem Cn(t:List Mm)(A:Option Addr)(c:Nat)(S:Nat->Prop)(w0:World)(hX:Rep S w0 (Tf t) [.slice A t.length c])(hm:∀m∈t,MmOk m)(hG:Gl w0):Calls prog 14 #[.slice A t.length c] w0 (Oc λv w'=>v=.bool (Bh t)/\Same [] w0 w'):=by
 have htl:=PU hX;refine Ea func14 O ntmps14 Bb (Tb _) ?_;have hF:=FR.start w0 [];refine Da (Ba (Kb O) (Ca (Fa (Da (Ba (Qe O) (Ba (Qg dX O) (Ba (Cb O) (Ca (Sa ?_)))))))));refine Rc (λμ σ w=>∃(i:Nat),μ=t.length-i/\(i<=t.length)/\(∀k<i,Er t k=true)/\AllEq σ [(0,.slice A t.length c),(5,.slice A t.length c),(6,J ((t.length:Nat))),(7,J ((i:Int)))]/\FR w0 [] [] w) _ ⟨0,O,(Nat.zero_le _),Aa,Ur,hF⟩ ?_;rintro μ σ w ⟨i,rfl,hi,hall,hs,hF⟩;refine Cg.slots hs ?_;clear hs;intro σ;refine Da (Ba (Dl O O) (Ca (Fa ?_)));refine Lb O O (λhc0=>?_) (λhc0=>?_);refine Na (Ga (Fa (Sa (Fa ?_))));have hil:i<t.length:=by omega
 refine Ja (Ba (Cb O) ?_);obtain⟨ad0,q0,hA0,hk0,hx0,hp0⟩:=hX.mm_elem (i:=i) (hil);refine Ia (v:=.pointer (some (ad0.add (i*6)))) (Ra (i:=(i:Int)) El O hA0 O Aa Aa) (Ia (v:=.agg #[I (t[i].pr),.bool (q0.h),J (q0.v.k),I (q0.v.t),.slice q0.v.A q0.v.n q0.v.c,.slice q0.v.B q0.v.m q0.v.e]) (Za (l:=(Cr t[i].pr q0)) eZ rZ O O (hF.cells0 hk0)) ?_);refine Gc (cs:=#[I [],.bool false,J 0,I [],aQ,aQ]) hF uX O ?_;rintro b1 w hb1 hF -;refine Ba (Gb O) (Ke hF rZ O O Oi ?_);rintro w hF -;refine Ca (Fa ?_);refine Be (zs:=.of []) (.free 0 (.act 1 (bQ [2,3,4,5,6,7,8,9,10,11,12,13,14,15,16,17] .nil))) hF ?_;intro w hF;refine Nf O (Ig eZ rZ O C0 0 O O) (Vd hF (memo_c t[i] q0 S _ (hF.rep hx0) (hm t[i] (eQ hil)) (hG.ext hF.same)) O (Ma en_46 O O) ?_);intro w hF;refine⟨hF,?_⟩;refine Hb O (Wi O) (Hb O (Sc O) ?_);refine QP (d:=15) O (λhg1=>?_) (λhg1=>?_);refine Lf O (Lf O ?_);refine Lf O (Lf O ?_);refine Lf O (Lf O ?_);refine Lf O (Lf O ?_);refine Lf O (Lf O ?_);refine Lf O (Lf O ?_);refine Lf O (Hb O (Fc O O) (d_nil (Ga (Od O (Da (Ba (Kb O) (Ca ?_)))))));refine Lc (v:=.bool false) O O ⟨congrArg Value.bool ?_,hF.same⟩;exact (V_ hil (okMm_no hil (by simpa using hg1))).symm;refine Hb O (Cb O) (Hb O (Yx O O) (Hb O (Sc O) ?_));refine Mz (d:=18) O (λhg2=>?_) (λhg2=>?_);obtain⟨k,rfl⟩:∃k,i=k+1:=⟨i-1,by omega⟩;refine Hb O (Rb Fo O) (Nf O (Tn fZ O C0 0 O O) (Hb O (Qe O) (Hb O (Cb O) (Hb O (TZ (((k:Nat):Int)) O O) ?_))));obtain⟨ad3,q3,hA3,hk3,hx3,hp3⟩:=hX.mm_elem (i:=k) Aa;refine Ab rfl (v:=.pointer (some (ad3.add (k*6)))) (λw hC=>Ra (i:=((k:Nat):Int)) El rfl hA3 rfl Aa Aa) (Ab rfl (v:=.pointer (some ((ad3.add (k*6)).add 0))) (λw hC=>Gd (a:=ad3.add (k*6)) Fo rfl) (Ab rfl (v:=I (t[k].pr)) (λw hC=>Yc fZ rfl (hC.cell0 (hk3 0 Bb))) (Ab rfl (v:=.bool (At (t[(k+1:Nat)].pr) (t[k].pr) || decide ((t[(k+1:Nat)].pr:Str)=t[k].pr))) (λw hC=>x_leqs rfl rfl) (Hb rfl (Fc rfl rfl) (Hb rfl (Pc rfl rfl) (d_nil (Ga ?_)))))))
 refine He O O (λhc1=>?_) (λhc1=>?_);refine Da (Ba (Kb O) (Ca ?_));refine Lc (v:=.bool false) O O ⟨congrArg Value.bool ?_,hF.same⟩;exact (V_ hil (YW hil (by simpa using hc1))).symm;refine Na (Wa (Ga (Ja (Ba (Un (((k+1+1:Nat):Int)) O O) (Ba (Cb O) (Eb ?_))))));have hok:Er t (k+1)=true:=SF hil (by simpa using hg1) (λj e hj=>by have e2:k=j:=(Nat.succ.inj e);subst e2;simpa using hc1);refine Qb ⟨_,?_,k+1+1,rfl,Aa,(λj hj=>by rcases Nat.lt_succ_iff_lt_or_eq.1 hj with h|h;exact hall j h;rw[h];exact hok),Ur,hF.drop 1⟩;omega;refine Lf O (Lf O ?_);refine Lf O (Lf O ?_);refine Lf O (Lf O ?_);refine Lf O (Lf O ?_);refine Lf O (Hb O (Pc O O) (Hb O (Pc O O) (d_nil (Ga (Te O (Na (Wa (Ga (Ja (Ba (Un (((i+1:Nat):Int)) O O) (Ba (Cb O) (Eb ?_))))))))))));have hok:Er t i=true:=SF hil (by simpa using hg1) (λj e hj=>absurd (show (0:Int)<(i:Int) by omega) hg2);refine Qb ⟨_,?_,i+1,rfl,Aa,(λj hj=>by rcases Nat.lt_succ_iff_lt_or_eq.1 hj with h|h;exact hall j h;rw[h];exact hok),Ur,hF.drop 1⟩;omega;refine Ic (Ec O ?_);refine Ga (Da (Ba (Qe O) (Ba (Qg dX O) (Ba (NM O O) (Ba (Kb O) (Ca ?_))))));refine Lc (v:=.bool _) O O ⟨congrArg Value.bool ?_,hF.same⟩;obtain rfl:i=t.length:=by omega
 exact (CM hall).symm
def Sh(c:UInt8):Bool:=(decide (48<=c.toNat)&&decide (c.toNat<=57)) || (decide (97<=c.toNat)&&decide (c.toNat<=102)) || (decide (65<=c.toNat)&&decide (c.toNat<=70))
def I3(c:UInt8):Nat:=if c.toNat<=57 then c.toNat-48 else if 97<=c.toNat then c.toNat-87 else c.toNat-55
def Fl:Str->Option Nat
  | a::b::c::d::_=>if (Sh a&&Sh b&&Sh c&&Sh d)=true then some (4096*I3 a+256*I3 b+16*I3 c+I3 d) else none
  | _=>none
def Dj(c:UInt8):Option Nat:=if c.toNat=34\/c.toNat=92\/c.toNat=47 then some c.toNat else if c.toNat=98 then some 8 else if c.toNat=102 then some 12 else if c.toNat=110 then some 10 else if c.toNat=114 then some 13 else if c.toNat=116 then some 9 else none
def Qf(s:Str):Nat × Nat :=
  match Fl (s.drop 2)with
  | none=>(0,0)
  | some h => if 56320 <= h /\ h<57344 then (0, 0) else if h<55296 \/ 57344 <= h then (h, 6) else
    if (s.drop 6).take 2=[92,117] then
      match Fl (s.drop 8)with
      | none=>(0,0)
      | some l=>if l<56320\/57344<=l then (0,0) else (65536+(h-55296)*1024+(l-56320),12)
    else (0,0)
def Vj(s:Str):Nat × Nat :=
  match s with
  | _ :: c :: _ => match Dj c with
    | some r=>(r,2)
    | none=>if c.toNat=117 then Qf s else (0,0)
  | _=>(0,0)
def Si(s:Str):Nat × Nat:=if s.head? = some 92 then Vj s else
  if (Lib.decodeL s).1<32\/((Lib.decodeL s).1=65533/\(Lib.decodeL s).2=1) then (0,0) else Lib.decodeL s
def Wm:Nat->Str->Nat->Str->Str × Nat × Int
  | 0,t,_,_=>([],t.length,2)
  | f + 1, t, at_, out => if h : at_<t.length then
      (if t[at_]=34 then (out,at_+1,0) else if (Si (t.drop at_)).2=0 then ([],at_,2) else Wm f t (at_+(Si (t.drop at_)).2) (out++Vf (Si (t.drop at_)).1))
    else ([],t.length,2)
def Re(t:Str)(at_:Nat):Str × Nat × Int:=if t[at_]? = some 34 then Wm (t.length-at_) t (at_+1) [] else ([],at_,2)
def Vc(t:Str):Str × Nat × Int:=if (Re t 0).2.2=0/\(Re t 0).2.1<t.length then ([],(Re t 0).2.1,2) else Re t 0
theorem Nx{s:Str}(h:1<s.length):Vj s=match Dj s[1]with|some r=>(r,2)|none=>if s[1].toNat=117 then Qf s else (0,0):=by
  match s,h with
  | a::c::r,_=>rfl
theorem J8{s:Str}(h:s.length<2):Vj s=(0,0):=by
  match s,h with
  | [],_=>rfl
  | [a],_=>rfl
theorem Rv{a b:UInt8}:a=b↔a.toNat=b.toNat:=⟨λh=>by rw[h],λh=>UInt8.toNat_inj.1 h⟩
theorem Rt{s:Str}(h:0<s.length):Si s=if s[0].toNat=92 then Vj s else if (Lib.decodeL s).1<32\/((Lib.decodeL s).1=65533/\(Lib.decodeL s).2=1) then (0,0) else Lib.decodeL s:=by
  match s,h with
  | c :: r, _ =>
    unfold Si;simp only[List.head?_cons,Option.some.injEq,List.getElem_cons_zero];by_cases hc:c=92
    ·rw[if_pos hc,if_pos (show c.toNat=92 by rw[hc];rfl)]
    rw[if_neg hc,if_neg (λe:c.toNat=92=>hc (Rv.2 e))]
theorem Ey{s:Str}{h:Nat}(e:Fl s=some h):h<65536/\4<=s.length:=by
  unfold Fl at e;split at e
  ·split at e
   ·have hv:∀x:UInt8,Sh x=true->I3 x<16:=λx hx=>by
      unfold Sh at hx;unfold I3;simp only[Bool.or_eq_true,Bool.and_eq_true,decide_eq_true_eq]at hx
      repeat' split
      all_goals omega
    rename_i a b c d r hh
    simp only[Bool.and_eq_true]at hh;have h1:=hv _ hh.1.1.1;have h2:=hv _ hh.1.1.2;have h3:=hv _ hh.1.2;have h4:=hv _ hh.2;injection e with e
    refine⟨by omega,by simp⟩
   cases e
  cases e
theorem FU{c:UInt8}{r:Nat}(e:Dj c=some r):r<256:=by
  have:=UInt8.toNat_lt c;unfold Dj at e
  repeat' (first|(injection e with e;omega)|split at e|cases e)
theorem P8(s:Str):(Vj s).2<=s.length/\(Vj s).1<=1114111:=by
  unfold Vj;split
  ·rename_i c0 c r
   split
   ·rename_i q hq;have:=FU hq;exact⟨by simp,by omega⟩
   split
   ·unfold Qf
    split
    ·exact⟨Nat.zero_le _,by simp⟩
    rename_i h hh
    have h1:=Ey hh;simp only[List.length_drop]at h1
    repeat' split
    all_goals first|exact⟨Nat.zero_le _,by simp⟩|skip
    ·exact⟨by omega,by omega⟩
    rename_i l hl _
    have h2:=Ey hl;simp only[List.length_drop]at h2;exact⟨by simp only;omega,by simp only;omega⟩
   exact⟨Nat.zero_le _,by simp⟩
  exact⟨Nat.zero_le _,by simp⟩
theorem Wt(s:Str)(hs:s≠[]):(Si s).2<=s.length/\(Si s).1<=1114111:=by
  unfold Si;split
  ·exact P8 s
  split
  ·exact⟨Nat.zero_le _,by simp⟩
  exact⟨Lib.decodeL_le s hs,Lib.decodeL_rune s⟩
theorem Q0:∀(f:Nat)(t:Str)(a:Nat)(out:Str),t.length-a<f->a<=t.length->(Wm f t a out).2.1<=t.length/\a<=(Wm f t a out).2.1/\((Wm f t a out).2.2=0\/(Wm f t a out).2.2=2)/\(Wm f t a out).1.length<=out.length+4*(t.length-a)
  | 0,_,_,_,h,_=>by omega
  | f + 1, t, a, out, hf, ha => by
    rw[Wm];split
    ·rename_i hlt
     split
     ·exact⟨by simp only;omega,by simp only;omega,.inl O,by simp⟩
     split
     ·exact⟨by simp only;omega,gQ _,.inr O,by simp⟩
     rename_i hz
     have hb:=Wt (t.drop a) (by rw[ne_eq,List.drop_eq_nil_iff];omega);rw[List.length_drop]at hb;have:=Q0 f t (a+(Si (t.drop a)).2) (out++Vf (Si (t.drop a)).1) Aa Aa;have h4:=Pg ((Si (t.drop a)).1:Int);rw[dQ]at this;exact⟨this.1,by omega,this.2.2.1,by omega⟩
    exact⟨gQ _,by simp only;omega,.inr O,by simp⟩
theorem BT(t:Str)(a:Nat)(ha:a<=t.length):(Re t a).2.1<=t.length/\a<=(Re t a).2.1/\((Re t a).2.2=0\/(Re t a).2.2=2)/\(Re t a).1.length<=4*t.length:=by
  unfold Re;split
  ·rename_i h
   have hl:a<t.length:=by
     rcases Nat.lt_or_ge a t.length with h'|h'
     ·exact h'
     rw[List.getElem?_eq_none h']at h;cases h
   have:=Q0 (t.length-a) t (a+1) [] Aa Aa;simp only[List.length_nil]at this;exact⟨this.1,by omega,this.2.2.1,by omega⟩
  exact⟨ha,gQ _,.inr O,by simp⟩
def Km(c:UInt8):Bool:=decide (0<=Lib.indexByte [32,9,10,13] c)
def Q5(c:UInt8):Bool:=decide (0<=Lib.indexByte [45,43,46,48,49,50,51,52,53,54,55,56,57,101,69] c)
def Ch(c:UInt8):Bool:=decide (97<=c.toNat)&&decide (c.toNat<=122)
def Ah(p:UInt8->Bool):Str->Nat
  | []=>0
  | c::s=>if p c=true then Ah p s+1 else 0
theorem Hq(p:UInt8->Bool):∀s:Str,Ah p s<=s.length
  | []=>gQ _
  | c :: s => by rw[Ah];split;· simpa using Hq p s
                 ·exact Nat.zero_le _
structure Tk where
  k:Int
  f:Nat
  t:Nat
def Iq(s:Str):Int:=if s=[116,114,117,101] then 10 else if s=[102,97,108,115,101] then 11 else if s=[110,117,108,108] then 12 else 0
def Dq(s:Str)(a:Nat)(c:UInt8):Tk × Int :=
  let r:=s.drop a
  if 0<=Lib.indexByte [123,125,91,93,44,58] c then (⟨2+Lib.indexByte [123,125,91,93,44,58] c,a,a+1⟩,0)
  else if Km c=true then (⟨1,a,a+Ah Km r⟩,0)
  else if c.toNat=34 then (if (Re s a).2.2=0 then (⟨8,a,(Re s a).2.1⟩,0) else (⟨0,(Re s a).2.1,(Re s a).2.1⟩,(Re s a).2.2))
  else if c.toNat=45\/(48<=c.toNat/\c.toNat<=57) then (if (Uc (r.take (Ah Q5 r))).2=0 then (⟨9,a,a+Ah Q5 r⟩,0) else (⟨0,a,a⟩,(Uc (r.take (Ah Q5 r))).2))
  else if Iq (r.take (Ah Ch r))≠0 then (⟨Iq (r.take (Ah Ch r)),a,a+Ah Ch r⟩,0) else (⟨0,a,a⟩,2)
def Ud(s:Str)(a:Nat):Tk × Int:=Dq s a ((s.drop a).headD 0)
def Gg:Nat->Str->Nat->List Tk->List Tk × Nat × Int
  | 0,s,_,_=>([],s.length,2)
  | f+1,s,a,out=>if a<s.length then (if (Ud s a).2=0 then Gg f s (Ud s a).1.t (out++[(Ud s a).1]) else ([],(Ud s a).1.f,(Ud s a).2)) else (out,s.length,0)
def Ub(s:Str):List Tk × Nat × Int:=if 65536<s.length then ([],0,3) else Gg (s.length+1) s 0 []
structure Nd where
  k:Int
  f:Nat
  t:Nat
  kf:Nat
  kt:Nat
  kids:List Int
  pcs:List (Int × Int)
structure Ps where
  rest:List Tk
  lf:Nat
  lt:Nat
  nodes:List Nd
  at_:Nat
  err:Int
def Ps.kind(p:Ps):Int:=match p.rest with|[]=>0|t::_=>t.k
def Ps.here(p:Ps)(n:Nat):Nat:=match p.rest with|[]=>n|t::_=>t.f
def Ps.fail(p:Ps)(n:Nat)(e:Int):Ps:={ p with at_:=p.here n,err:=e }
def Ps.skip(p:Ps):Ps:=match p.rest with|[]=>p|t::r=>{ p with lf:=t.f,lt:=t.t,rest:=r }
def Kd(t:Int):Int:=if t=12 then 1 else if t=10\/t=11 then 2 else if t=9 then 3 else if t=8 then 4 else if t=4 then 5 else if t=2 then 6 else 0
def addKid(l:List Nd)(n:Nat)(kid:Int)(f t:Int):List Nd:=match l[n]? with|none=>l|some x=>l.set n { x with kids:=x.kids++[kid],pcs:=x.pcs++[(f,t)] }
def setTo(l:List Nd)(n:Nat)(t:Nat):List Nd:=match l[n]? with|none=>l|some x=>l.set n { x with t:=t }
def Oj(kid:Ps × List Str->Bool × Ps × List Str)(len n:Nat)(closing:Int):Nat->Ps × List Str->Bool × Ps × List Str
  | 0,st=>(false,st)
  | g + 1, (p, had) =>
    let r:=kid (p,had)
    if r.1=false then (false,r.2) else
      let q:Ps:={ r.2.1 with nodes:=addKid r.2.1.nodes n p.nodes.length p.lt (r.2.1.here len) }
      if q.kind=closing then (true,q.skip,r.2.2) else if q.kind≠6 then (false,q.fail len 2,r.2.2) else Oj kid len n closing g (q.skip,r.2.2)
def Qd(kid:Ps × List Str->Bool × Ps × List Str)(len n:Nat)(closing:Int)(st:Ps × List Str):Bool × Ps × List Str :=
  if st.1.kind=closing then (true,st.1.skip,st.2) else Oj kid len n closing (st.1.rest.length+1) st
def Jd(s:Str)(val:Nat->Nat->Ps->Bool × Ps)(st:Ps × List Str):Bool × Ps × List Str :=
  match st.1.rest with
  | []=>(false,st.1.fail s.length 2,st.2)
  | t :: _ => if t.k ≠ 8 then (false, st.1.fail s.length 2, st.2) else
    let key:=(Vc ((s.take t.t).drop t.f)).1
    if key∈st.2 then (false,st.1.fail s.length 7,st.2) else
      let q:Ps:=st.1.skip
      if q.kind≠7 then (false,q.fail s.length 2,key::st.2) else
        let r:=val t.f t.t q.skip
        (r.1,r.2,key::st.2)
def Zb(s:Str):Nat->Nat->Nat->Ps->Bool × Ps
  | 0,_,_,p=>if Kd p.kind=0 then (false,p.fail s.length 2) else (false,p.fail s.length 5)
  | d + 1, kf, kt, p =>
    match p.rest with
    | []=>(false,p.fail s.length 2)
    | t :: _ =>
      if Kd t.k=0 then (false,p.fail s.length 2) else if p.nodes.length=4096 then (false,p.fail s.length 6) else
        let q:Ps:={ p.skip with nodes:=p.nodes++[⟨Kd t.k,t.f,t.t,kf,kt,[],[]⟩] }
        let r:Bool × Ps:=if Kd t.k=5 then (let r:=Qd (λst=>(λx=>(x.1,x.2,st.2)) (Zb s d 0 0 st.1)) s.length p.nodes.length 5 (q,[]);(r.1,r.2.1))
          else if Kd t.k=6 then (let r:=Qd (Jd s (Zb s d)) s.length p.nodes.length 3 (q,[]);(r.1,r.2.1)) else (true,q)
        (r.1,{ r.2 with nodes:=setTo r.2.nodes p.nodes.length r.2.lt })
def Hc(s:Str):List Nd × Nat × Int :=
  let a:=Ub s
  if a.2.2≠0 then ([],a.2.1,a.2.2) else
    let r:=Zb s 32 0 0 ⟨a.1.filter λt=>decide (t.k≠1),0,0,[],0,0⟩
    if r.1=false then ([],r.2.at_,r.2.err) else if r.2.rest≠[] then ([],r.2.here s.length,2) else (r.2.nodes,s.length,0)
def Ac(s:Str)(f t:Nat):Str:=if f<=t/\t<=s.length then (s.take t).drop f else []
def Ug(k:Int)(s:Str):Str:=if k=2 then s else if k=3 then Gi (Uc s).1 else if k=4 then (Vc s).1 else []
def Sf(s:Str)(l:List Nd):Nat->Nat->Tree
  | 0,k=>match l[k]? with|none=>.node 0 [] [] []|some x=>.node x.k (Ug x.k (Ac s x.f x.t)) [] []
  | d + 1, k => match l[k]? with
    | none=>.node 0 [] [] []
    | some x =>
      let ks:List Int:=x.kids.takeWhile λj:Int=>decide (0<=j)&&decide (j<(l.length:Int))
      .node x.k (Ug x.k (Ac s x.f x.t)) (if x.k=6 then ks.map λj=>match l[j.toNat]? with|none=>[]|some y=>(Vc (Ac s y.kf y.kt)).1 else []) (ks.map λj=>Sf s l d j.toNat)
def Cc(s:Str):Tree × Nat × Int:=let r:=Hc s;if r.2.2≠0 then (.node 0 [] [] [],r.2.1,r.2.2) else (Sf s r.1 32 0,r.2.1,0)
def KS(x:Tk):D:=.agg [Ai x.k,.agg [Ai (x.f:Nat),Ai (x.t:Nat)]]
def Mk(l:List Tk):D:=.slice (l.map KS)
section
variable {S:Nat->Prop}{w:World}
theorem Q3{x:Tk}{cs:List Value}(h:Rep S w (KS x) cs):cs=[J x.k,J (x.f:Nat),J (x.t:Nat)]:=by
  simp only[KS,Ai,Rep,RepL]at h;obtain⟨c1,c2,rfl,⟨rfl,-⟩,c3,c4,rfl,⟨c5,c6,rfl,⟨rfl,-⟩,c7,c8,rfl,⟨rfl,-⟩,rfl⟩,rfl⟩:=h;rfl
theorem Rep.tok_elem{l:List Tk}{A:Option Addr}{len c:Nat}(h:Rep S w (Mk l) [.slice A len c]){i:Nat}(hi:i<l.length) :
    ∃ad,A=some ad/\(∀j (hj:j<[Value.int .i64 l[i].k,J (l[i].f:Nat),J (l[i].t:Nat)].length),w.cell? ((ad.add (i*3)).add j)=some [Value.int .i64 l[i].k,J (l[i].f:Nat),J (l[i].t:Nat)][j]):=by
  obtain⟨ad,cs,hA,hl,hc,hr⟩:=Rep.elem (sz:=3) h (λd hd=>by obtain⟨k,_,rfl⟩:=nQ.1 hd;rfl) (i:=i) (by simpa using hi);rw[List.getElem_map]at hr;obtain rfl:=Q3 hr;exact⟨ad,hA,hc⟩
end
def Wn(x:Nd)(K:Option Addr)(kc:Nat)(Q:Option Addr)(qc:Nat):List Value :=
  [J x.k,J (x.f:Nat),J (x.t:Nat),J (x.kf:Nat),J (x.kt:Nat),.slice K x.kids.length kc,.slice Q x.pcs.length qc]
def LY(l:List (Int × Int)):List Value:=l.flatMap λq=>[J q.1,J q.2]
inductive NdsAt (TI TP:Nat):List Nd->List Value->List (Nat × Obj)->Prop
  | nil:NdsAt TI TP [] [] []
  | cons {x:Nd} {xs:List Nd} {K Q:Option Addr} {kc qc:Nat} {sk sq sb:List (Nat × Obj)} {vs:List Value} (hk:SlB TI 1 K x.kids.length kc (x.kids.map (Value.int .i64)) sk) (hq:SlB TP 2 Q x.pcs.length qc (LY x.pcs) sq) (h:NdsAt TI TP xs vs sb) :
      NdsAt TI TP (x::xs) (Wn x K kc Q qc++vs) (sk++(sq++sb))
section
variable {TI TP:Nat}{xs ys:List Nd}{vs us:List Value}{sb tb:List (Nat × Obj)}
theorem NdsAt.len(h:NdsAt TI TP xs vs sb):vs.length=xs.length*7:=by
  induction h with
  | nil=>rfl
  | cons _ _ _ ih=>rw[dQ,ih,kQ];simp only[Wn,kQ,List.length_nil];omega
theorem NdsAt.app(h:NdsAt TI TP xs vs sb)(h':NdsAt TI TP ys us tb):NdsAt TI TP (xs++ys) (vs++us) (sb++tb):=by
  induction h with
  | nil=>exact h'
  | cons hk hq _ ih=>rw[List.cons_append,sQ,sQ,sQ];exact .cons hk hq ih
theorem NdsAt.split(h:NdsAt TI TP xs vs sb){n:Nat}(hn:n<xs.length):∃(K Q:Option Addr)(kc qc:Nat)(v1 v2:List Value)(s1 sk sq s2:List (Nat × Obj)),
    vs=v1++(Wn xs[n] K kc Q qc++v2)/\sb=s1++(sk++(sq++s2))/\NdsAt TI TP (xs.take n) v1 s1/\SlB TI 1 K xs[n].kids.length kc (xs[n].kids.map (Value.int .i64)) sk/\SlB TP 2 Q xs[n].pcs.length qc (LY xs[n].pcs) sq/\NdsAt TI TP (xs.drop (n+1)) v2 s2:=by
  induction h generalizing n with
  | nil=>simp at hn
  | @cons x xs K Q kc qc sk sq sb vs hk hq h ih =>
    cases n with
    | zero=>exact⟨K,Q,kc,qc,[],vs,[],sk,sq,sb,rfl,rfl,.nil,hk,hq,by simpa using h⟩
    | succ n =>
      obtain⟨K',Q',kc',qc',v1,v2,s1,sk',sq',s2,rfl,rfl,g1,g2,g3,g4⟩:=ih (n:=n) (by simpa using hn);exact⟨K',Q',kc',qc',Wn x K kc Q qc++v1,v2,sk++(sq++s1),sk',sq',s2,by simp,by simp,by rw[List.take_succ_cons];exact .cons hk hq g1,g2,g3,by simpa using g4⟩
theorem QZ{n:Nat}(hn:n<xs.length){x:Nd}{K Q:Option Addr}{kc qc:Nat}{v1 v2:List Value}{s1 sk sq s2:List (Nat × Obj)}(h1:NdsAt TI TP (xs.take n) v1 s1)(hk:SlB TI 1 K x.kids.length kc (x.kids.map (Value.int .i64)) sk)(hq:SlB TP 2 Q x.pcs.length qc (LY x.pcs) sq)(h2:NdsAt TI TP (xs.drop (n+1)) v2 s2) :
    NdsAt TI TP (xs.set n x) (v1++(Wn x K kc Q qc++v2)) (s1++(sk++(sq++s2))):=by
  rw[List.set_eq_take_append_cons_drop,if_pos hn];exact h1.app (.cons hk hq h2)
end
def Ym(s:Str)(Ar:Option Addr)(cr:Nat)(p:Ps)(A:Option Addr)(c:Nat):List Value :=
  [I s,.slice Ar p.rest.length cr,J (p.lf:Nat),J (p.lt:Nat),.slice A p.nodes.length c,J (p.at_:Nat),J p.err]
structure Jx (TI TP TN TB:Nat) (w:World) (sm:List (Nat × Obj)) (pb:Nat) (s:Str) (p:Ps):Prop where
  ex:∃(A Ar:Option Addr)(c cr:Nat)(sl:List (Nat × Obj))(vals:List Value)(sb:List (Nat × Obj)),sm=(pb,.cells (Ym s Ar cr p A c).toArray TB)::(sl++sb)/\SlB TN 7 A p.nodes.length c vals sl/\NdsAt TI TP p.nodes vals sb /\
    Rep (λb=>b∉ids sm) w (Mk p.rest) [.slice Ar p.rest.length cr]
section
variable {TI TP TN TB:Nat}{w w' w0:World}{sm sm1 pre post bs_:List (Nat × Obj)}{pb:Nat}{s:Str}{p:Ps}{E Ds:List Nat}
theorem Jx.box(h:Jx TI TP TN TB w sm pb s p)(hh:∀q∈sm,w.heap[q.1]? = some q.2):∃(A Ar:Option Addr)(c cr:Nat),w.heap[pb]? = some (.cells (Ym s Ar cr p A c).toArray TB):=by
  obtain⟨A,Ar,c,cr,sl,vals,sb,rfl,-⟩:=h.ex;exact⟨A,Ar,c,cr,hh _ List.mem_cons_self⟩
end
end Go.Scarf
