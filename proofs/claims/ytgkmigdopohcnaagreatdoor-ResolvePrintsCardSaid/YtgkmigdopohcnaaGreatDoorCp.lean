/- A part of the proof. -/
import Derived.Laws.CopyRow
import Derived.Lib.AppendZerosOnto
import Derived.Test.YtgkmigdopohcnaaGreatDoorRe1
set_option linter.all false
set_option maxHeartbeats 8000000
set_option maxRecDepth 10000
namespace Go.Scarf
open Go.RowKit
def Uk(z:List Value):Nat->List Value
  | 0=>[]
  | k+1=>z++Uk z k
theorem Bm(z:List Value):∀k,(Uk z k).length=k*z.length
  | 0=>by simp[Uk]
  | k+1=>by rw[Uk,dQ,Bm z k,Nat.add_mul];omega
theorem OH(z:List Value):∀(k i:Nat)(h:i<k*z.length),(Uk z k)[i]? = z[i%z.length]?
  | 0,i,h=>by omega
  | k + 1, i, h => by
    rw[Uk];by_cases hi:i<z.length
    ·rw[List.getElem?_append_left hi,Nat.mod_eq_of_lt hi]
    rw[List.getElem?_append_right Aa, OH z k (i-z.length) (by rw[Nat.add_mul]at h;omega)]
    congr 1
    conv=>rhs;rw[show i=(i-z.length)+z.length from by omega,Nat.add_mod_right]
theorem HF(z:List Value)(k:Nat):madeCells z.toArray (k*z.length)=(Uk z k).toArray:=by
  apply Array.ext
  ·simp[madeCells,Bm]
  intro i h1 h2;have hi:i<k*z.length:=by simpa[madeCells]using h1
  have hz:0<z.length:=Nat.pos_of_ne_zero λh=>by rw[h]at hi;omega
  have hm:i%z.length<z.length:=Nat.mod_lt _ hz;have h3:=OH z k i hi;rw[List.getElem?_eq_getElem (by rw[Bm];exact hi),List.getElem?_eq_getElem hm]at h3;have h4:=lQ h3;simp[madeCells,h4,hm]
theorem Q0(z:List Value)(k:Nat):Builtin.zeroCells z.toArray k=(Uk z k).toArray:=by
  have:=HF z k;unfold madeCells at this;unfold Builtin.zeroCells;simpa using this
section
variable {P:Program}{R:Exit->Act->World->Prop}{n:Nat}{kt:Kt}{s:Nat->Value}{w w0:World}{ops rest:List Oper}{Ds:List Nat}{bs_:List (Nat × Obj)}
variable {d:Nat}{ty:TypeId}{pos:String}{aft:Array Edge}{g:Option (Nat × Bool)}{ρ:Operand->Value}{dst:Option Nat}
theorem KC{t e m bytes:Nat}{z:Value}{zl:List Value}{x y:Operand}{N:Nat}(hE:Elems P t e m bytes)(hz0:(P.info? e).map (·.zero)=some (some z))(hc:z.cells=zl.toArray)(hx:ρ x=J (N:Int))(hy:ρ y=J (N:Int))(h:N<=1000000000)(hb:bytes<=1000) :
    (execOp ρ ⟨dst,.makeSlice t x y,ty,pos,aft,g⟩).run P w=.ok (.value (.slice (some ⟨w.heap.size,0,none⟩) N N)) (w.alloc (.cells (Uk zl N).toArray e)):=by
  obtain⟨i,z',hi,hz,hs,hby,hzs⟩:=hE.info;rw[hi]at hz0;have ez:i.zero=some z:=by simpa using hz0
  have hle:(i.bytes:Int)*(N:Int)<=281474976710656:=by
    rw[hby];have:bytes*N<=1000*1000000000:=Nat.mul_le_mul hb h;have h2:((bytes*N:Nat):Int)<=281474976710656:=by omega
    rwa [Int.natCast_mul]at h2
  have hr:=run_make (P:=P) w t e i z hE.ht hi ez .i64 .i64 N N Aa (Int.le_refl _) hle Aa;have em:m=zl.length:=by
    rw[hz]at ez;rw[<-hzs,lQ ez,hc];simp
  rw[hs,Int.toNat_natCast,hc,em,HF]at hr;simp[execOp,hx,hy,hr]
def Wz(cur:List Value)(o:Nat)(cs:List Value):List Value:=cur.take o++(cs++cur.drop (o+cs.length))
theorem NG{g o:Nat}{cur cs:List Value}{T:TypeId}(hg:w.heap[g]? = some (.cells cur.toArray T)):(w.setRow g (Wz cur o cs).toArray).heap[g]? = some (.cells (Wz cur o cs).toArray T)/\Same [g] w (w.setRow g (Wz cur o cs).toArray) :=
  ⟨setRow_heap w g _ _ T (0,0) hg,⟨rfl,rfl,rfl,by simp[World.setRow],λb _ hb=>setRow_other w g b _ (by simpa using hb)⟩⟩
theorem EI{t t2 e m bytes g o dLen dCap sLen sCap q:Nat}{a:Option Addr}{cur cs:List Value}{T:TypeId}(hE:Elems P t e m bytes)(hg:w.heap[g]? = some (.cells cur.toArray T))(hq:Nat.min sLen dLen=q)(hn:cs.length=q*m)
    (hsrc:q≠0->∃ad,a=some ad/\∀j u,cs[j]? = some u->w.cell? (ad.add j)=some u) (hfit:o+cs.length<=cur.length) (h1:∀v∈cs,v.oneCell'=true) :
    (Builtin.copy_ #[t,t2] ty #[.slice (some ⟨g,o,none⟩) dLen dCap,.slice a sLen sCap]).run P w=.ok (goInt q) (w.setRow g (Wz cur o cs).toArray):=by
  obtain⟨i,z,hi,-,hs,-,-⟩:=hE.info;have hst:=run_storeCells_at P g o T cs 0 cur.toArray w hg (by simpa using hfit) h1;have hst':(storeCells ⟨g,o,none⟩ cs).run P w=.ok () (w.setRow g (Wz cur o cs).toArray):=by
    rw[hst];simp[Wz,sQ]
  by_cases h0:q=0
  ·subst h0
   have e0:cs=[]:=List.eq_nil_of_length_eq_zero (by simpa using hn);subst e0;cases a with
   | none=>simp[Builtin.copy_,run_underlying hE.ht,Builtin.lenOf,Builtin.firstCells,sizeOf,typeInfo,hi,hq,hst']
   | some ad=>simp[Builtin.copy_,run_underlying hE.ht,Builtin.lenOf,Builtin.firstCells,sizeOf,typeInfo,hi,hq,hst',loadCells,loadCellsFrom]
  obtain⟨ad, rfl, hc⟩ := hsrc h0;have hl:=run_loadCells_list (P:=P) w ad cs hc;rw[hn]at hl;simp[Builtin.copy_,run_underlying hE.ht,Builtin.lenOf,Builtin.firstCells,sizeOf,typeInfo,hi,hq,hs,hl,hst']
theorem BV(i:Nat){x y:Operand}{t t2 e m bytes b o dLen dCap sLen sCap:Nat}{a:Option Addr}{cur:List Value}{T:TypeId}(cs:List Value)(q:Nat)(hE:Elems P t e m bytes)(hF:FR w0 Ds bs_ w)(hi:bs_[i]? = some (b,.cells cur.toArray T))(hx:ev n s x=.slice (some ⟨b,o,none⟩) dLen dCap)(hy:ev n s y=.slice a sLen sCap)(hq:Nat.min sLen dLen=q)(hn:cs.length=q*m)
    (hsrc:q≠0->∃ad,a=some ad/\∀j u,cs[j]? = some u->w.cell? (ad.add j)=some u) (hfit:o+cs.length<=cur.length) (h1:∀v∈cs,v.oneCell'=true)
    (h:∀w',FR w0 Ds (bs_.set i (b,.cells (Wz cur o cs).toArray T)) w'->Same [b] w w'->Og P R n ops kt rest (Af s d (J (q:Int))) w')
    (hw:Fb ops n s ⟨some d,.call ⟨.builtin .copy,#[x,y],#[t,t2]⟩,ty,pos,aft,g⟩=true:=by rfl):Og P R n ops kt (⟨some d,.call ⟨.builtin .copy,#[x,y],#[t,t2]⟩,ty,pos,aft,g⟩::rest) s w:=by
  have hh:=hF.heap hi;have hr:=EI (ty:=ty) (t2:=t2) (sCap:=sCap) (dCap:=dCap) hE hh hq hn hsrc hfit h1;have hs:=NG (o:=o) (cs:=cs) hh;refine Ka (v:=J (q:Int)) (w':=w.setRow b (Wz cur o cs).toArray) ?_ (h _ (hF.change i hi hs.2 hs.1) hs.2) hw;simp[execOp,resolve,invoke,builtin,hx,hy,hr,goInt]
theorem f_copy{C:World->Prop}{order:Ord}{zs:Lt}{ii:Nat}{x y:Operand}{t t2:Nat}(hii:ops[ii]? = some ⟨some d,.call ⟨.builtin .copy,#[x,y],#[t,t2]⟩,ty,pos,aft,g⟩)(i:Nat){e m bytes b o dLen dCap sLen sCap:Nat}{a:Option Addr}{cur:List Value}{T:TypeId}(cs:List Value)(q:Nat)(hE:Elems P t e m bytes)(hF:FR w0 Ds bs_ w)(hi:bs_[i]? = some (b,.cells cur.toArray T))(hx:ev n s x=.slice (some ⟨b,o,none⟩) dLen dCap)(hy:ev n s y=.slice a sLen sCap)(hq:Nat.min sLen dLen=q)(hn:cs.length=q*m)
    (hsrc:q≠0->∃ad,a=some ad/\∀j u,cs[j]? = some u->w.cell? (ad.add j)=some u) (hfit:o+cs.length<=cur.length) (h1:∀v∈cs,v.oneCell'=true)
    (h:∀w',FR w0 Ds (bs_.set i (b,.cells (Wz cur o cs).toArray T)) w'->Same [b] w w'->C w'/\Dg P R n ops kt zs order C (Af s d (J (q:Int))) w')
    (hw:Fb ops n s ⟨some d,.call ⟨.builtin .copy,#[x,y],#[t,t2]⟩,ty,pos,aft,g⟩=true:=by rfl) (hz:zs.contains ii=false:=by rfl):Dg P R n ops kt zs (.act ii order) C s w:=by
  have hh:=hF.heap hi;have hr:=EI (ty:=ty) (t2:=t2) (sCap:=sCap) (dCap:=dCap) hE hh hq hn hsrc hfit h1;have hs:=NG (o:=o) (cs:=cs) hh;have hrr:=h _ (hF.change i hi hs.2 hs.1) hs.2;refine Cz (v:=J (q:Int)) (w':=w.setRow b (Wz cur o cs).toArray) hii ?_ hrr.1 hrr.2 hw hz;simp[execOp,resolve,invoke,builtin,hx,hy,hr,goInt]
theorem o_appZ{x y:Operand}{t tn e m bytes len c k:Nat}{z:Value}{zl:List Value}{A:Option Addr}(olds:List Value)(hE:Elems P t e m bytes)(hz0:(P.info? e).map (·.zero)=some (some z))(hc:z.cells=zl.toArray)(htn:P.underlying tn=some (.int .i64))(hF:FR w0 Ds bs_ w)(hx:ev n s x=.slice A len c)(hy:ev n s y=J (k:Int))(hl:olds.length=len*m)
    (hold:len≠0->∃a,A=some a/\∀j u,olds[j]? = some u->w.cell? (a.add j)=some u) (h0:0<k) (hm:0<m) (hg:c<len+k) (hb:(len+k)*bytes<=140737488355328) (h63:len+k<=1000000000)
    (h:∀b c' junk w',b=w.heap.size->len+k<=c'->c'<=maxLen->junk.length=(c'-(len+k))*m->FR w0 Ds ((b,.cells (olds++(Uk zl k++junk)).toArray e)::bs_) w'->Same [] w w'->Og P R n ops kt rest (Af s d (W b (len+k) c')) w')
    (hw:Fb ops n s ⟨some d,.call ⟨.builtin .append,#[x,y],#[t,tn]⟩,ty,pos,aft,g⟩=true:=by rfl):Og P R n ops kt (⟨some d,.call ⟨.builtin .append,#[x,y],#[t,tn]⟩,ty,pos,aft,g⟩::rest) s w:=by
  obtain⟨inf,z',hi,hz,hs,hby,hzs⟩:=hE.info;rw[hi]at hz0;have ez:inf.zero=some z:=by simpa using hz0
  have em:m=zl.length:=by
    rw[hz]at ez;rw[<-hzs,lQ ez,hc];simp
  have hfo:(Builtin.firstCells inf.size len (.slice A len c)).run P w.drew=.ok olds.toArray w.drew:=by
    by_cases hl0:len=0
    ·subst hl0
     have e0:olds=[]:=List.eq_nil_of_length_eq_zero (by simpa using hl);subst e0;cases A <;> simp[Builtin.firstCells,loadCells,loadCellsFrom]
    obtain⟨a, rfl, hr⟩ := hold hl0;exact run_firstCells_some (P:=P) w.drew inf.size len a len c olds (by rw[hs];exact hl) (by simpa using hr)
  have hkb:k*inf.bytes<=281474976710656:=by
    rw[hby];have:k*bytes<=(len+k)*bytes:=Nat.mul_le_mul_right _ Aa;omega
  have hr:=Lib.run_append_grow_zeros (P:=P) w t tn ty e inf z .i64 .i64 hE.ht htn hi ez A len c olds hfo k h0 Aa hg Aa hkb (by rw[hby];exact growslice_fits Aa hb);rw[hc,Q0,Q0]at hr;have hge:=grownCap_ge w (len+k) c e;have hcm:grownCap w (len+k) c e<=maxLen:=grownCap_le_maxLen w (len+k) c e (by simp only[maxLen];omega);have hsm:Same [] w (w.drew.alloc (.cells (olds++(Uk zl k++Uk zl (grownCap w (len+k) c e-(len+k)))).toArray e)):=(Same.drew w).trans (Same.alloc w.drew _);have hFn:FR w0 Ds ((w.heap.size,.cells (olds++(Uk zl k++Uk zl (grownCap w (len+k) c e-(len+k)))).toArray e)::bs_) (w.drew.alloc (.cells (olds++(Uk zl k++Uk zl (grownCap w (len+k) c e-(len+k)))).toArray e)):=hF.drew.alloc _;refine Ka (v:=.slice (some ⟨w.heap.size,0,none⟩) (len+k) (grownCap w (len+k) c e)) ?_ (h _ _ _ _ O hge hcm (by rw[Bm,em]) hFn hsm) hw;have e1:olds.toArray++(Uk zl k).toArray++(Uk zl (grownCap w (len+k) c e-(len+k))).toArray=(olds++(Uk zl k++Uk zl (grownCap w (len+k) c e-(len+k)))).toArray:=by simp[sQ]
  rw[e1]at hr;simp[execOp,resolve,invoke,builtin,hx,hy,hr]
end
open Go.RowKit Go.Proofs Go.Proofs.Tryz
theorem x_leqs{P:Program}{w:World}{ρ:Operand->Value}{dst:Option Nat}{ty:TypeId}{pos:String}{aft:Array Edge}{g:Option (Nat × Bool)}{t t':TypeId}{x y:Operand}{a b:Str}(hx:ρ x=I a)(hy:ρ y=I b) :
    (execOp ρ ⟨dst,.binOp .leq t x y t',ty,pos,aft,g⟩).run P w=.ok (.value (.bool (Zs a b || decide (a=b)))) w:=by
  have h1:Op.bytesLess (bs a).toList (bs b).toList=Zs a b:=by rw[Gn,Gn]
  have h2:=IC a b;obtain⟨u,hu⟩:∃u,u=bs a:=⟨_,rfl⟩;obtain⟨v,hv⟩:∃v,v=bs b:=⟨_,rfl⟩;have hx':ρ x=.string u:=hx.trans (by rw[hu]);have hy':ρ y=.string v:=hy.trans (by rw[hv]);rw[<-hu,<-hv]at h1 h2;simp[execOp,hx',hy',Kl,binOp,Op.stringOp,h1,h2]
theorem WQ{S:Nat->Prop}{w:World}{t:List Mm}{A:Option Addr}{n c:Nat}(h:Rep S w (Mh t) [.slice A n c]):t.length<=9223372036854775807:=by
  obtain⟨A',c',-,g1,g2,-⟩:=Rep.slice_inv h;rw[rQ]at g1;omega
structure MmOk (m:Mm):Prop where
  sd:SdOk m.sd
  pr:m.pr.length<=1000000000
  ks:m.sd.val.keys.length<=1000000000
theorem MmOk.nm{m:Mm}(h:MmOk m){x:Sv}{S:Nat->Prop}{w:World}(hx:Rep S w (Ve m.sd) x.cells):x.v.n+x.v.m<=1000000000000:=by
  have h1:=Se hx;have h2:=h.ks;have h3:=Ox m.sd.val;have h4:=Vm m.sd.val.items;have h5:=h.sd.sz;omega
theorem DF{t:List Mm}{i:Nat}(hi:i<t.length)(hm:Aq t[i]=true)(ho:∀j,i=j+1->∀h:j<t.length,(Zs t[i].pr t[j].pr || decide (t[i].pr=t[j].pr))=false):Tr t i=true:=by
  unfold Tr;rw[List.getElem?_eq_getElem hi];simp only[hm,Bool.true_and];cases i with
  | zero=>rfl
  | succ j =>
    simp only;rw[List.getElem?_eq_getElem (by omega:j<t.length)];have:=ho j rfl Aa;simp only[Bool.or_eq_false_iff,Zr,decide_eq_false_iff_not]at this;show Zs t[j].pr t[j+1].pr=true;rw[Zr,decide_eq_true_eq];rcases Decidable.em (t[j].pr<t[j+1].pr)with h|h
    ·exact h
    exact absurd (RN this.1 h) this.2
theorem okMm_no{t:List Mm}{i:Nat}(hi:i<t.length)(hm:Aq t[i]=false):Tr t i=false:=by
  unfold Tr;rw[List.getElem?_eq_getElem hi];simp[hm]
theorem okMm_no2{t:List Mm}{j:Nat}(hi:j+1<t.length)(h:(Zs t[j+1].pr t[j].pr || decide (t[j+1].pr=t[j].pr))=true):Tr t (j+1)=false:=by
  unfold Tr;rw[List.getElem?_eq_getElem hi];simp only;rw[List.getElem?_eq_getElem (by omega:j<t.length),Bool.and_eq_false_iff];refine .inr ?_;show Zs t[j].pr t[j+1].pr=false;rw[Zr,decide_eq_false_iff_not];intro hlt;rw[Bool.or_eq_true,Zr,decide_eq_true_eq,decide_eq_true_eq]at h;rcases h with h|h
  ·exact CB (S0 h hlt)
  rw[h]at hlt;exact CB hlt
theorem S_{t:List Mm}{i:Nat}(hi:i<t.length)(h:Tr t i=false):Ej t=false:=by
  unfold Ej;rw[Bool.and_eq_false_iff,List.all_eq_false];exact .inl ⟨i,List.mem_range.2 hi,by simp[h]⟩
theorem EM{t:List Mm}(h:∀i<t.length,Tr t i=true):Ej t=decide ((t.length:Int)<=256):=by
  unfold Ej;rw[List.all_eq_true.2 λi hi=>h i (List.mem_range.1 hi),Bool.true_and];rw[decide_eq_decide];omega
theorem memo_c(m:Mm)(x:Sv)(S:Nat->Prop)(w0:World)(hX:Rep S w0 (Ve m.sd) x.cells)(hm:MmOk m)(hG:Gl w0):Calls prog 36 #[.agg (Ct m.pr x).toArray] w0 (Dd λv w'=>v=.bool (Aq m)/\Same [] w0 w'):=by
 have hx:=Se hX;refine Ia func36 O ntmps36 Eb (Yb _) ?_;have hF:=FR.start w0 [];refine Ea (Oe hF O ?_);rintro b1 w hb1 hF -;refine Ba (Db O) (Rb (Ba (Ob Gq O) (Zb (Pk jZ O hF.F 0 O O) ?_)));refine Lb (HC m.pr (by have:=hm.pr;omega) _ (hG.ext hF.same)) (Na en_60 O O) ?_;rintro _ w ⟨nv,rfl,hE⟩;have hF:=hF.ext hE;refine Ba (Qk O) (Ba (Tj O O) (Ba (Ao O O) (Ba (Gb O) (Ba (Db O) (Rb (Ba (Vb O) (Ba (Vb O) ?_)))))));refine Lc (d:=12) O (λhg0=>?_) (λhg0=>?_);refine Ba (Ob Hm O) (Ka (v:=.agg (x.cells).toArray) (Wa (l:=x.cells) cZ oZ O O (hF.part 0 1 O O)) ?_);refine Oa hF (AL m.sd x 0 S _ (hF.rep hX) hm.sd (hG.ext hF.same)) (Xa en_39 O O O) ?_;intro w hF;refine Ba (Tb O O) (Ba (Vb O) ?_);refine Lc (d:=17) O (λhg1=>?_) (λhg1=>?_);refine Ba (Ob Hm O) (Ba (Ob Qh O) (Zb (N3 fZ O hF.F 0 O O) (Ba (Vb O) ?_)));refine Lc (d:=21) O (λhg2=>?_) (λhg2=>?_);refine Ca (Ca (Ca (Ca (Ba (Tb O O) (Ba (Tb O O) (Ba (Db O) (Da ?_)))))));refine Gc (v:=.bool true) O O ⟨congrArg Value.bool ?_,hF.same⟩;have h1:=hx.1;unfold Aq;simp_all;refine Ba (Ob Hm O) (Ba (Ob Ag O) (Ka (v:=.agg (x.v.cells).toArray) (Wa (l:=x.v.cells) aZ nZ O O (hF.part 0 2 O O)) ?_));refine Oa hF (zeroB_c m.sd.val x.v S _ (hF.rep hx.2.2.2.2) (hm.nm hX)) (Na en_61 O O) ?_;intro w hF;refine Ba (Kb O O) (Ba (Tb O O) (Ba (Db O) (Da ?_)));refine Gc (v:=.bool _) O O ⟨congrArg Value.bool ?_,hF.same⟩;have h1:=hx.1;unfold Aq;simp_all;refine Ca (Ca (Ca (Ca (Ca (Ca (Ca (Ca (Ca (Ba (Kb O O) (Ba (Db O) (Da ?_)))))))))));refine Gc (v:=.bool false) O O ⟨congrArg Value.bool ?_,hF.same⟩;have h1:=hx.1;unfold Aq;simp_all;refine Ca (Ca (Ca (Ba (Kb O O) (Ba (Vb O) (Ca (Ca (Ca (Ca (Ca (Ca (Ca (Ca (Ca ?_)))))))))))));refine Ba (Kb O O) (Ba (Db O) (Da ?_));refine Gc (v:=.bool false) O O ⟨congrArg Value.bool ?_,hF.same⟩;have h1:=hx.1;unfold Aq
 simp_all
theorem N4(s:Sd)(x:Sv)(S:Nat->Prop)(w0:World)(hX:Rep S w0 (Ve s) x.cells)(hs:SdOk s)(hG:Gl w0):Calls prog 42 #[.agg x.cells.toArray] w0 (Dd λv w'=>∃y:Sv,v=.agg y.cells.toArray/\Rep (Btw w0 w') w' (Ve (Mk s)) y.cells/\Same [] w0 w'):=by
 have hx:=Se hX;refine Ia func42 O ntmps42 Eb (Yb _) ?_;have hF:=FR.start w0 [];refine Ea (Oe hF O ?_);rintro b1 w hb1 hF -;refine Wc (cs:=#[.bool false,J 0,I [],aQ,aQ]) hF mX O ?_;rintro b2 w hb2 hF -;refine Da (Ga (Ea (Ba (Ob Qh O) (Zb (N3 fZ O hF.F 1 O O) (Ba (Si O) (Da ?_))))));refine Le O O (λhc0=>?_) (λhc0=>?_);have h0:s.has=false:=by rw[<-hx.1];simpa using hc0
 refine Ea (Ka (w':=w) (v:=.agg #[.bool false,J 0,I [],aQ,aQ]) Ub ?_);refine Ie hF oZ O O Zg ?_;rintro w hF -;refine Da (Va (Ua (Ja (Vi O (l:=[.bool false,J 0,I [],aQ,aQ]) O cZ oZ O (hF.cellsAll 0 O)) ?_)));have e:Mk s=noS:=by rw[Mk,if_neg (by rw[h0];decide)]
 rw[e];exact⟨⟨false,V9⟩,O,Jo,hF.same⟩;have h0:s.has=true:=by rw[<-hx.1];simpa using hc0
 refine La (Fa (Ea (Ba (Ob Ag O) (Ka (v:=.agg (x.v.cells).toArray) (Wa (l:=x.v.cells) aZ nZ O O (hF.part 1 1 O O)) ?_))));refine Lb (LN s.val hs.sz _ _ x.v.cells (hF.rep hx.2.2.2.2) hs.ok (hG.ext hF.same)) (Na en_66 O O) ?_;rintro _ w ⟨ct,rfl,hRt,hE⟩;obtain⟨q,rfl,-⟩:=Bj hRt;have hYX:=RX.made (ids:=[b2,b1]) hF.same.size (λx hx=>hF.lt_ids (by simpa using hx)) hRt;have hF:=hF.ext hE;clear hE hRt;refine Ka (w':=w) (v:=.agg #[.bool true,J (q.k),I (q.t),.slice q.A q.n q.c,.slice q.B q.m q.e]) Ub (Ie hF oZ O O Zg ?_);intro w hF hE;have hYX:=hYX.store hE (by grind);refine Da (Va (Ua (Ja (Vi O (l:=[.bool true,J (q.k),I (q.t),.slice q.A q.n q.c,.slice q.B q.m q.e]) O cZ oZ O (hF.cellsAll 0 O)) ?_)));have e:Mk s=⟨true,Iu s.val⟩:=by rw[Mk,if_pos h0]
 rw[e]
 ·exact⟨⟨true,q⟩,O,J5 (s:=⟨true,Iu s.val⟩) hYX.done,hF.same⟩
theorem Uy(t:List Mm)(A:Option Addr)(c:Nat)(S:Nat->Prop)(w0:World)(hX:Rep S w0 (Mh t) [.slice A t.length c])(hm:∀m∈t,MmOk m)(hG:Gl w0):Calls prog 13 #[.slice A t.length c] w0 (Dd λv w'=>v=.bool (Ej t)/\Same [] w0 w'):=by
 have htl:=WQ hX;refine Ia func13 O ntmps13 Eb (Yb _) ?_;have hF:=FR.start w0 [];refine Ea (Ba (Db O) (Da (Ga (Ea (Ba (Sf O) (Ba (Ch cX O) (Ba (Za O) (Da (Qa ?_)))))))));refine Jc (λμ σ w=>∃(i:Nat),μ=t.length-i/\(i<=t.length)/\(∀k<i,Tr t k=true)/\AllEq σ [(0,.slice A t.length c),(5,.slice A t.length c),(6,J ((t.length:Nat))),(7,J ((i:Int)))]/\FR w0 [] [] w) _ ⟨0,O,(Nat.zero_le _),Aa,Om,hF⟩ ?_;rintro μ σ w ⟨i,rfl,hi,hall,hs,hF⟩;refine Cg.slots hs ?_;clear hs;intro σ;refine Ea (Ba (Di O O) (Da (Ga ?_)));refine Ib O O (λhc0=>?_) (λhc0=>?_);refine La (Fa (Ga (Qa (Ga ?_))));have hil:i<t.length:=by omega
 refine Ha (Ba (Za O) ?_);obtain⟨ad0,q0,hA0,hk0,hx0,hp0⟩:=hX.mm_elem (i:=i) (hil);refine Ka (v:=.pointer (some (ad0.add (i*6)))) (Sa (i:=(i:Int)) Qm O hA0 O Aa Aa) (Ka (v:=.agg #[I (t[i].pr),.bool (q0.h),J (q0.v.k),I (q0.v.t),.slice q0.v.A q0.v.n q0.v.c,.slice q0.v.B q0.v.m q0.v.e]) (Wa (l:=(Ct t[i].pr q0)) gZ qZ O O (hF.cells0 hk0)) ?_);refine Wc (cs:=#[I [],.bool false,J 0,I [],aQ,aQ]) hF zeroValue67 O ?_;rintro b1 w hb1 hF -;refine Ba (Gb O) (Ie hF qZ O O Zg ?_);rintro w hF -;refine Da (Ga ?_);refine Md (zs:=.of []) (.free 0 (.act 1 (bQ [2,3,4,5,6,7,8,9,10,11,12,13,14,15,16,17] .nil))) hF ?_;intro w hF;refine Fg O (Of gZ qZ O C0 0 O O) (Ed hF (memo_c t[i] q0 S _ (hF.rep hx0) (hm t[i] (eQ hil)) (hG.ext hF.same)) O (Na en_36 O O) ?_);intro w hF;refine⟨hF,?_⟩;refine Jb O (Si O) (Jb O (Vb O) ?_);refine UN (d:=15) O (λhg1=>?_) (λhg1=>?_);refine Fe O (Fe O ?_);refine Fe O (Fe O ?_);refine Fe O (Fe O ?_);refine Fe O (Fe O ?_);refine Fe O (Fe O ?_);refine Fe O (Fe O ?_);refine Fe O (Jb O (Tb O O) (Hc (Fa (Ad O (Ea (Ba (Db O) (Da ?_)))))));refine Gc (v:=.bool false) O O ⟨congrArg Value.bool ?_,hF.same⟩;exact (S_ hil (okMm_no hil (by simpa using hg1))).symm;refine Jb O (Za O) (Jb O (Ho O O) (Jb O (Vb O) ?_));refine Zk (d:=18) O (λhg2=>?_) (λhg2=>?_);obtain⟨k,rfl⟩:∃k,i=k+1:=⟨i-1,by omega⟩;refine Jb O (Ob Gq O) (Fg O (Pk jZ O C0 0 O O) (Jb O (Sf O) (Jb O (Za O) (Jb O (XQ (((k:Nat):Int)) O O) ?_))));obtain⟨ad3,q3,hA3,hk3,hx3,hp3⟩:=hX.mm_elem (i:=k) Aa;refine Cb rfl (v:=.pointer (some (ad3.add (k*6)))) (λw hC=>Sa (i:=((k:Nat):Int)) Qm rfl hA3 rfl Aa Aa) (Cb rfl (v:=.pointer (some ((ad3.add (k*6)).add 0))) (λw hC=>Te (a:=ad3.add (k*6)) Gq rfl) (Cb rfl (v:=I (t[k].pr)) (λw hC=>Qd jZ rfl (hC.cell0 (hk3 0 Eb))) (Cb rfl (v:=.bool (Zs (t[(k+1:Nat)].pr) (t[k].pr) || decide ((t[(k+1:Nat)].pr:Str)=t[k].pr))) (λw hC=>x_leqs rfl rfl) (Jb rfl (Tb rfl rfl) (Jb rfl (Kb rfl rfl) (Hc (Fa ?_)))))))
 refine Le O O (λhc1=>?_) (λhc1=>?_);refine Ea (Ba (Db O) (Da ?_));refine Gc (v:=.bool false) O O ⟨congrArg Value.bool ?_,hF.same⟩;exact (S_ hil (okMm_no2 hil (by simpa using hc1))).symm;refine La (Bb (Fa (Ha (Ba (Ek (((k+1+1:Nat):Int)) O O) (Ba (Za O) (Ta ?_))))));have hok:Tr t (k+1)=true:=DF hil (by simpa using hg1) (λj e hj=>by have e2:k=j:=(Nat.succ.inj e);subst e2;simpa using hc1);refine Hb ⟨_,?_,k+1+1,rfl,Aa,(λj hj=>by rcases Nat.lt_succ_iff_lt_or_eq.1 hj with h|h;exact hall j h;rw[h];exact hok),Om,hF.drop 1⟩;omega;refine Fe O (Fe O ?_);refine Fe O (Fe O ?_);refine Fe O (Fe O ?_);refine Fe O (Fe O ?_);refine Fe O (Jb O (Kb O O) (Jb O (Kb O O) (Hc (Fa (De O (La (Bb (Fa (Ha (Ba (Ek (((i+1:Nat):Int)) O O) (Ba (Za O) (Ta ?_))))))))))));have hok:Tr t i=true:=DF hil (by simpa using hg1) (λj e hj=>absurd (show (0:Int)<(i:Int) by omega) hg2);refine Hb ⟨_,?_,i+1,rfl,Aa,(λj hj=>by rcases Nat.lt_succ_iff_lt_or_eq.1 hj with h|h;exact hall j h;rw[h];exact hok),Om,hF.drop 1⟩;omega;refine Ec (Ac O ?_);refine Fa (Ea (Ba (Sf O) (Ba (Ch cX O) (Ba (XC O O) (Ba (Db O) (Da ?_))))));refine Gc (v:=.bool _) O O ⟨congrArg Value.bool ?_,hF.same⟩;obtain rfl:i=t.length:=by omega
 exact (EM hall).symm
end Go.Scarf
