/- A part of the proof. -/
import Derived.Test.YtidlkjpohhbbcaaGreatDoorQ15
set_option linter.all false
set_option maxHeartbeats 8000000
set_option maxRecDepth 10000
set_option synthInstance.maxHeartbeats 0
set_option synthInstance.maxSize 9999
namespace Go.Scarf
open List renaming length->aL
open Go.RowKit Go.Proofs Go.Proofs.Tryz
variable {s:Str}{d:Nat}{y:Tree}{w w' w0:World}
def Ux:∀y∈(Ib s).1,Ls y/\y.t<=aL s:=by
  unfold Ib;split
  ·intro y hy;cases hy
  rename_i hl
  suffices h:∀(f a:Nat)(out:List Tk),(∀y∈out,Ls y/\y.t<=aL s)->∀y∈(Dl f s a out).1,Ls y/\y.t<=aL s from h _ _ _ (λy hy=>by cases hy)
  intro f
  induction f with
  | zero=>intro a out _ y hy;cases hy
  | succ f ih =>
    intro a out ho y hy;rw[Dl]at hy;split at hy
    ·rename_i h1
     split at hy
     ·rename_i h2
      have hto:=Oy h1 h2;refine ih _ _ (λz hz=>?_) y hy;rcases mQ.1 hz with h|h
      ·exact ho z h
      rw[pQ.1 h];exact⟨⟨hto.2.2.2.1,hto.2.2.2.2,by rw[hto.2.2.1];exact hto.1,Aa⟩,hto.2.1⟩
     cases hy
    exact ho y hy
def TkIn(s:Str)(p:Ps):Prop:=∀t∈p.rest,t.f<=t.t/\t.t<=aL s
def MY(s:Str)(p q:Ps)(h:q.rest <:+ p.rest)(hp:TkIn s p):TkIn s q:=λt ht=>hp t<|h.subset ht
def tkIn_p0(s:Str):TkIn s (So s):=λt ht=>by
  have h:=Ux t (List.mem_filter.1 ht).1;exact⟨Nat.le_of_lt h.1.2.2.1,h.2⟩
def Uq(h:(Ib s).2.2≠0):Vb s=([],(Ib s).2.1,(Ib s).2.2):=by
  unfold Vb;exact uQ h
def HO(kid:Ps × List Str->Bool × Ps × List Str):Prop:=∀st,(kid st).1=false->(kid st).2.1.err≠0
theorem T9{kid:Ps × List Str->Bool × Ps × List Str}(hk:HO kid)(hs:Aw kid)(len n:Nat)(closing:Int):∀(g:Nat)(st:Ps × List Str),aL st.1.rest<g->(Vi kid len n closing g st).1=false->(Vi kid len n closing g st).2.1.err≠0
  | 0,_,h,_=>absurd h<|Nat.not_lt_zero _
  | g + 1, (p, had), h, h1 => by
    have h2:=hk (p,had);have h3:=(hs (p,had)).length_le;rw[Vi]at h1 ⊢;dsimp only at h1 h h2 h3 ⊢;split at h1
    ·rename_i h4;rw[uQ h4];exact h2 h4
    rename_i h4;rw[tQ h4]
    split at h1
    ·cases h1
    rename_i h5;rw[tQ h5]
    split at h1
    ·rename_i h6;rw[uQ h6];exact (by decide:(2:Int)≠0)
    rename_i h6;rw[tQ h6]
    have h7:=QD<|Decidable.not_not.1 h6;exact T9 hk hs len n closing g _ (by dsimp only at h7 ⊢;omega) h1
def P_{kid:Ps × List Str->Bool × Ps × List Str}(hk:HO kid)(hs:Aw kid)(len n:Nat)(closing:Int)(st:Ps × List Str)(h:(Ec kid len n closing st).1=false):(Ec kid len n closing st).2.1.err≠0:=by
  unfold Ec at h ⊢;split at h
  ·cases h
  rename_i h1;rw[tQ h1];exact T9 hk hs len n closing _ st (Nat.lt_succ_self _) h
def ValErr(val:Nat->Nat->Ps->Bool × Ps):Prop:=∀kf kt p,(val kf kt p).1=false->(val kf kt p).2.err≠0
def IL(s:Str){val:Nat->Nat->Ps->Bool × Ps}(h:ValErr val):HO (Mb s val):=λst=>by
  obtain⟨p,had⟩:=st;unfold Mb;dsimp only;split
  ·exact λ_=>(by decide:(2:Int)≠0)
  split
  ·exact λ_=>(by decide:(2:Int)≠0)
  split
  ·exact λ_=>(by decide:(7:Int)≠0)
  split
  ·exact λ_=>(by decide:(2:Int)≠0)
  exact h _ _ _
theorem Ov(s:Str):∀d:Nat,ValErr (Wa s d)
  | 0 => λkf kt p h => by
    rw[Wa]at h ⊢;split
    ·exact (by decide:(2:Int)≠0)
    exact (by decide:(5:Int)≠0)
  | d + 1 => λkf kt p h => by
    have ih:=Ov s d;rw[Wa]at h ⊢;split
    ·exact (by decide:(2:Int)≠0)
    rename_i t r hr
    rw[hr]at h;dsimp only at h ⊢;split
    ·exact (by decide:(2:Int)≠0)
    rename_i h1;rw[tQ h1]at h
    split
    ·exact (by decide:(6:Int)≠0)
    rename_i h2;rw[tQ h2]at h
    dsimp only at h ⊢;split
    ·rename_i h3;rw[uQ h3]at h;exact P_ (kid:=Xh s d) (λst h=>ih 0 0 st.1 h) (My<|Gi s d) _ _ _ _ h
    rename_i h3;rw[tQ h3]at h
    split
    ·rename_i h4;rw[uQ h4]at h;exact P_ (IL s ih) (Tq s<|Gi s d) _ _ _ _ h
    rename_i h4;rw[tQ h4]at h;cases h
def U9(hl:aL s<=65536)(h:(Vb s).2.2=0):0<aL (Vb s).1:=by
  by_cases hok:(Ib s).2.2=0
  ·obtain⟨b, q, hr⟩ : ∃b q, Wa s 32 0 0 (So s) = (b, q) := ⟨_, _, rfl⟩
   have h1:=Yf hl 32 0 0 (So s) Aa Aa<|D_ λy hy=>(Ux y hy).1;have h2:=Ov s 32 0 0<|So s;have h3:=Gu hok hr;rw[hr]at h1 h2;rw[h3]at h ⊢;cases b with
   | false=>exact absurd h<|h2 rfl
   | true =>
     rw[tQ Ja]at h ⊢;split at h
     ·cases h
     rename_i h4;rw[tQ h4];exact Nat.lt_of_le_of_lt (dZ _)<|h1.2.2 rfl
  rw[Uq hok]at h;exact absurd h hok
def IW(s:Str)(hl:aL s<=65536)(w0:World)(hG:Gl w0):Calls prog 74 #[I s] w0 (Za λv w'=>∃A c tx,v=.tuple #[.agg #[I tx,.slice A (aL (Vb s).1) c],J ((Vb s).2.1:Nat),J (Vb s).2.2]/\((Vb s).2.2=0/\(Vb s).1≠[]->tx=s)/\Rep (Btw w0 w') w' (.slice ((Vb s).1.map ndD)) [.slice A (aL (Vb s).1) c]/\(∀x∈(Vb s).1,NdOk x)/\NB (Vb s).1/\Same [] w0 w'):=by
 refine Ea func74 ntmps74 ?_;intro hF;refine rn 3 ?_;rintro b1 w hb1 hF -;refine rn 7<|Xb (Fn.tokensE_c s (UniC.all s) Aa _<|hG.ext hF.same) (Df en_112 O O) ?_;have hwb:b1<_:=hF.lt (i:=0) rfl;rintro _ w ⟨AT,cT,rfl,hT,hTk,hE⟩;have hF:=hF.ext hE;refine rn 11 ?_;obtain⟨w1,hw1⟩:∃x,x=w:=⟨_,rfl⟩;have hS1:Same [] w0 w1:=by rw[hw1];exact hF.same
 have hb1:=hF.ge (i:=0) rfl;have hF1:FR w1 [b1] [(b1,.cells #[I [],aQ] 99)] w:=by subst hw1;exact FR.open_ (λq hq=>by rw[pQ.1 hq];exact⟨hF.heap (i:=0) rfl,Da⟩) Da
 rw[<-hw1]at hT;clear hF;have hF:=hF1;clear hF1;refine rn 6 ⟨λhc0=>?_,λhc0=>?_⟩;refine rn 2<|Ba (w':=w) (v:=.agg #[I [],aQ]) Ua ?_;refine rn 3 ?_;rintro w hF -;refine rn 4<|Rf<|Yd λ_ hr=>Nc (Mi hr (l:=[I [],aQ]) O isAgg99 sizeOf99 O (hF.cellsAll 0 O) (v:=J<|((Ib s).2.1:Nat)) O (y:=J<|(Ib s).2.2) O) ?_;have hSw:Same [] w0 w:=Zj hS1 hF.same (Same.refl [] _) hb1 (λx hx=>by have h1:=hS1.size;have h2:=hF.same.size;simp only[List.not_mem_nil,or_false]at hx;omega);rw[Uq hc0];exact⟨none,0,[],O,λh=>absurd O h.2,Rep.slice_mk O (gQ _) Ja λh=>absurd O h,(λx hx=>by cases hx),⟨dZ _,(λx hx=>by cases hx)⟩,hSw⟩;have hok:(Ib s).2.2=0:=Decidable.not_not.1 hc0;refine rn 5<|Ba (w':=w) (v:=.agg #[I s,aQ,J 0,J 0,aQ,J 0,J 0]) Ua ?_;refine rn 1 ?_;rintro b2 w hb2 hF -;refine rn 12<|Sa (λμ σ w=>∃(j:Nat),∃(rs:List Tk),∃(A2:Option Addr),∃(c2:Nat),∃(sts:List (Nat × Obj)),μ=aL (Ib s).1-j/\(j<=aL (Ib s).1)/\(rs=((Ib s).1.take j).filter (λt=>decide (t.k≠1)))/\(SlB 140 3 A2 (aL rs) c2 (Fn.tkCs rs) sts)/\AllEq σ [(0,I s),(2,.pointer<|some ⟨b1,0,none⟩),(8,.pointer<|some ⟨b2,0,none⟩),(26,.slice (AT) (aL (Ib s).1) cT),(27,J<|(aL (Ib s).1:Nat)),(28,J<|(j:Int))]/\FR w1 [b1] ([(b2,.cells #[I s,.slice A2 (aL rs) c2,J 0,J 0,aQ,J 0,J 0] 138),(b1,.cells #[I [],aQ] 99)]++(sts++[])) w) _ ⟨0,[],none,0,[],O,dZ _,O,SlB.nil _ _,Va,hF⟩ ?_;rintro μ σ w ⟨j,rs,A2,c2,sts,rfl,hj,hrs,hS,hzz,hF⟩;have htl:=G_ s;have hrl:aL rs<=65536:=by rw[hrs];exact fQ (List.length_filter_le _ _) bV
 refine Wf hzz 7 ⟨λhc1=>?_,λhc1=>?_⟩;refine rn 5 ?_;have hjl:j<aL (Ib s).1:=Aa
 obtain⟨ad,hA,hSb,hk⟩:=hT.tok_at hjl;have hSa:(ad.add<|j*3).block≠b1:=λe=>by have:=hSb.1;rw[e]at this;omega
 refine rn 1<|Ba (v:=.pointer<|some<|ad.add<|j*3) (Ca (i:=(j:Int)) Xi hA) ?_;refine Ba (Ma (l:=[J (Ib s).1[j].k,J ((Ib s).1[j].f:Nat),J ((Ib s).1[j].t:Nat)]) isAgg140 sizeOf140 O O<|hF.cellsE (by rw[pQ];exact hSa) hk) ?_;refine rn 1 ?_;rintro b3 w hb3 hF -;refine rn 10 ⟨λhc2=>?_,λhc2=>?_⟩;refine Gb ⟨[10],λwq=>FR w1 [b1] [(b3,.cells #[J<|(Ib s).1[j].k,J<|((Ib s).1[j].f:Nat),J<|((Ib s).1[j].t:Nat)] 140),(b1,.cells #[I [],aQ] 99)] wq,[8]⟩ (bQ [0,1,2,3,4,5]<|.act 6<|.act 7<|.free 8<|.free 9<|.act 10 .nil) hF ?_;rintro w hF -;refine⟨λwq=>FR w1 [b1] [(b3,.cells #[J<|(Ib s).1[j].k,J<|((Ib s).1[j].f:Nat),J<|((Ib s).1[j].t:Nat)] 140),(b2,.cells #[I s,.slice A2 (aL rs) c2,J 0,J 0,aQ,J 0,J 0] 138),(b1,.cells #[I [],aQ] 99)] wq,hF.mid 0 3,?_⟩;refine rn 7 ?_;rintro b4 w hb4 hF -;refine Uv hS (len':=aL (rs++[(Ib s).1[j]])) (ys:=(Fn.tkCs<|rs++[(Ib s).1[j]])) Da (by simp[Fn.tkCs,Fn.tkC]) ?_;intro A0 c0 ts_0 w hS0_ts hF hE hnew;refine rn 3 ?_;rintro w hF -;refine rn 4<|Zb (Wd<|((j+1:Nat):Int)) ?_;refine rn 2<|Ha ⟨_,?_,j+1,rs++[(Ib s).1[j]],A0,c0,ts_0,O,Aa,by rw[Ou hjl,<-hrs,uQ hc2],hS0_ts,Va,hF.su⟩;omega;refine rn 4<|Zb (Wd<|((j+1:Nat):Int)) ?_;refine rn 2<|Ha ⟨_,?_,j+1,rs,A2,c2,sts,O,Aa,by rw[Ou hjl,<-hrs,tQ hc2,qQ],hS,Va,hF.su⟩;omega;refine rn 3 ?_;have hjn:j=aL (Ib s).1:=Aa
 obtain rfl:rs=Zh s:=by rw[hrs,hjn,List.take_length];rfl
 obtain⟨w2,hw2⟩:∃x,x=w:=⟨_,rfl⟩;have hS2:Same [b1] w1 w2:=by rw[hw2];exact hF.same
 have hb2:=par_ge hF;have hJ0:=p0_Jp (o:=.cells #[I [],aQ] 99) hF hS<|ZD hTk;rw[<-hw2]at hJ0;have hM0:Mc w2 ([(b1,.cells #[I [],aQ] 99)]++[(b2,.cells (Qq s A2 c2 (So s) none 0).toArray 138)]) w2 ([(b1,.cells #[I [],aQ] 99)]++[(b2,.cells (Qq s A2 c2 (So s) none 0).toArray 138)]):=Mc.ext<|Same.refl _ _;have hlow:=CP hS1 hS2 hb1 hb2 (sm0:=([(b1,.cells #[I [],aQ] 99)]++[(b2,.cells (Qq s A2 c2 (So s) none 0).toArray 138)])) rfl;have hG2:Gl w2:=(hG.ext hS1).same hS2 (λb hb=>by rw[pQ.1 hb];exact fQ hG.size hb1);have hlo:∀b∈ids ([(b1,.cells #[I [],aQ] 99)]++[(b2,.cells (Qq s A2 c2 (So s) none 0).toArray 138)]),8<=b:=λb hb=>fQ hG.size<|hlow b<|.inr hb;have hF:FR w2 (ids<|[(b1,.cells #[I [],aQ] 99)]++[(b2,.cells (Qq s A2 c2 (So s) none 0).toArray 138)]) [] w:=by subst hw2;exact⟨Same.refl _ _,Da,Da⟩
 clear hM0;refine rn 2<|Ba (w':=w) (v:=.agg #[J 0,J 0]) Ua ?_;refine Xb (TV s hl _ b2 (TkIn s) (MY s) (λ_ h=>h) 32 Aa 0 0 (So s) 1 _ _ w Aa Aa Aa (hw2▸hG2) hlo (tkIn_p0 s) (D_ hTk)<|hw2▸hJ0) (Du IK O O O O) ?_;obtain⟨bo,q,hr⟩:∃x y,Wa s 32 0 0 (So s)=(x,y):=⟨_,_,rfl⟩;have hvo:=Yf hl 32 0 0 (So s) Aa Aa<|D_ hTk;rw[hr]at hvo ⊢;have hpe:=Gu hok hr;rw[<-hw2];rintro _ w ⟨rfl,sm3,hJ3,hM3⟩;obtain⟨A,Ar,c,cr,sl,vals,sb,hF,h1,h2,h3⟩:=Jp.openN (own:=[(b1,.cells #[I [],aQ] 99)]) (ex:=[]) hJ3 hM3 hJ0.off;replace hF:FR w2 (ids<|[(b1,.cells #[I [],aQ] 99)]++[(b2,.cells (Qq s A2 c2 (So s) none 0).toArray 138)]) ([(b1,.cells #[I [],aQ] 99),(b2,.cells #[I s,.slice Ar (aL q.rest) cr,J<|(q.lf:Nat),J<|(q.lt:Nat),.slice A (aL q.nodes) c,J<|(q.at_:Nat),J q.err] 138)]++([]++(sl++(sb++[])))) w:=hF;refine rn 6 ?_;rcases Bool.eq_false_or_eq_true bo with hbo|hbo
 subst hbo;refine rn 12 ⟨λhc3=>?_,λhc3=>?_⟩;have hne:q.rest≠[]:=λh=>by rw[h]at hc3;exact absurd hc3 Ja
 refine rn 2<|Fc (Es hJ3 2) ?_;rintro _ w ⟨rfl,sm7,hJ7,hM7⟩;have hM7:=hM3.trans hM7;obtain⟨A,Ar,c,cr,sl,vals,sb,hF,h1,h2,h3⟩:=Jp.openN (own:=[(b1,.cells #[I [],aQ] 99)]) (ex:=[]) hJ7 hM7 hJ0.off;have hF:FR w2 (ids<|[(b1,.cells #[I [],aQ] 99)]++[(b2,.cells (Qq s A2 c2 (So s) none 0).toArray 138)]) ([(b1,.cells #[I [],aQ] 99),(b2,.cells #[I s,.slice (Ar) ((q.fail (aL s) 2).rest.length) cr,J<|((q.fail (aL s) 2).lf:Nat),J<|((q.fail (aL s) 2).lt:Nat),.slice (A) ((q.fail (aL s) 2).nodes.length) c,J<|((q.fail (aL s) 2).at_:Nat),J<|(q.fail (aL s) 2).err] 138)]++([]++(sl++(sb++[])))) w:=hF;refine rn 12<|Gb (.of []) (bQ [0,1,2,3,4,5,6,7,8]<|.act 9<|.free 10<|.free 11 .nil) hF ?_;rintro w hF -;refine⟨λwq=>FR w2 (ids<|[(b1,.cells #[I [],aQ] 99)]++[(b2,.cells (Qq s A2 c2 (So s) none 0).toArray 138)]) [(b2,.cells #[I s,.slice (Ar) ((q.fail (aL s) 2).rest.length) cr,J<|((q.fail (aL s) 2).lf:Nat),J<|((q.fail (aL s) 2).lt:Nat),.slice (A) ((q.fail (aL s) 2).nodes.length) c,J<|((q.fail (aL s) 2).at_:Nat),J<|(q.fail (aL s) 2).err] 138)] wq,hF.mid 1 1,?_⟩;refine Ga O (v:=.agg #[I [],aQ]) (λw hC=>by kernel_rfl)<|rn 9 ?_;rintro w hF -;refine rn 4<|Rf<|Yd λ_ hr=>Nc (Mi hr (l:=[I [],aQ]) O isAgg99 sizeOf99 O (hF.cellsAll 0 O) (v:=J<|((q.fail (aL s) 2).at_:Nat)) O (y:=J<|(q.fail (aL s) 2).err) O) ?_;have hSw:Same [] w0 w:=Zj hS1 hS2 hF.same hb1 hlow;have hpe2:Vb s=([],q.here (aL s),2):=by rw[hpe,tQ Ja,uQ hne]
 rw[hpe2];exact⟨none,0,[],O,λh=>absurd O h.2,Rep.slice_mk O (gQ _) Ja λh=>absurd O h,(λx hx=>by cases hx),⟨dZ _,(λx hx=>by cases hx)⟩,hSw⟩;have hne:¬q.rest≠[]:=λh=>hc3 (by have:=List.length_pos_iff.2 h;show (0:Int)<((aL q.rest:Nat):Int);omega);refine rn 19<|Ba (w':=w) (v:=.agg #[I s,.slice A (aL q.nodes) c]) Ua ?_;refine rn 3 ?_;rintro w hF -;refine rn 4<|Rf<|Yd λ_ hr=>Nc (Mi hr (l:=[I s,.slice A (aL q.nodes) c]) O isAgg99 sizeOf99 O (hF.cellsAll 0 O) (v:=J<|(aL ((s):Str):Int)) O (y:=J 0) O) ?_;have hSw:Same [] w0 w:=Zj hS1 hS2 hF.same hb1 hlow;have hpe2:Vb s=(q.nodes,aL s,0):=by rw[hpe,tQ Ja,tQ hne]
 rw[hpe2];exact⟨A,c,s,O,λ_=>rfl,KB (own:=[_,_]) hF h1 h2 hvo.1.nd hlow,hvo.1.nd,hvo.1.nb,hSw⟩;subst hbo;refine rn 23<|Gb (.of []) (bQ [0,1,2,3,4,5,6,7,8]<|.act 9<|.free 10<|.free 11 .nil) hF ?_;rintro w hF -;refine⟨λwq=>FR w2 (ids<|[(b1,.cells #[I [],aQ] 99)]++[(b2,.cells (Qq s A2 c2 (So s) none 0).toArray 138)]) [(b2,.cells #[I s,.slice Ar (aL q.rest) cr,J<|(q.lf:Nat),J<|(q.lt:Nat),.slice A (aL q.nodes) c,J<|(q.at_:Nat),J q.err] 138)] wq,hF.mid 1 1,?_⟩;refine Ga O (v:=.agg #[I [],aQ]) (λw hC=>by kernel_rfl)<|rn 9 ?_;rintro w hF -;refine rn 4<|Rf<|Yd λ_ hr=>Nc (Mi hr (l:=[I [],aQ]) O isAgg99 sizeOf99 O (hF.cellsAll 0 O) (v:=J<|(q.at_:Nat)) O (y:=J q.err) O) ?_;have hSw:Same [] w0 w:=Zj hS1 hS2 hF.same hb1 hlow;have hpe2:Vb s=([],q.at_,q.err):=by rw[hpe,uQ rfl]
 rw[hpe2];exact⟨none,0,[],O,λh=>absurd O h.2,Rep.slice_mk O (gQ _) Ja λh=>absurd O h,(λx hx=>by cases hx),⟨dZ _,(λx hx=>by cases hx)⟩,hSw⟩
def RS(s:Str)(hl:aL s<=65536)(w0:World)(hG:Gl w0):Calls prog 43 #[I s] w0 (Za λv w'=>∃ct:List Value,v=.tuple #[.agg ct.toArray,J ((Ab s).2.1:Nat),J (Ab s).2.2]/\Rep (Btw w0 w') w' (Na (Ab s).1) ct/\Same [] w0 w'):=by
 refine Ea func43 ntmps43 ?_;intro hF;refine rn 3 ?_;rintro b1 w hb1 hF -;refine rn 7<|Fc (IW s hl _<|hG.ext hF.same) ?_;rintro _ w ⟨A,c,tx,rfl,htx,hR,hnd,hnb2,hE⟩;have hQ:=RX.made (ids:=[b1]) hF.same.size (λx hx=>hF.lt_ids hx) hR;clear hR;have hF:=hF.ext hE;refine rn 5 ?_;intro b2 w hb2 hF hE;have hQ:=hQ.alloc hE hb2;refine rn 12 ⟨λhc0=>?_,λhc0=>?_⟩;have hc0:¬(Vb s).2.2=0:=hc0;refine rn 2<|Ba (w':=w) (v:=.agg #[J 0,I [],aQ,aQ]) Ua ?_;refine rn 3 ?_;intro w hF hE;have hQ:=hQ.store hE Da;refine rn 4<|Rf<|Yd λ_ hr=>Nc (Mi hr (l:=[J 0,I [],aQ,aQ]) O qZ uZ O (hF.cellsAll 1 O) (v:=J<|((Vb s).2.1:Nat)) O (y:=J<|(Vb s).2.2) O) ?_;have e:Ab s=(.node 0 [] [] [],(Vb s).2.1,(Vb s).2.2):=by unfold Ab;rw[uQ hc0]
 rw[e];exact⟨_,O,Rep.tree_mk (ks:=[]) (xs:=[]) ⟨Ja,Ja⟩ Da (Rep.nil_slice 0 Aa none)<|Rep.nil_slice 0 Aa none,hF.same⟩;have hc0:(Vb s).2.2=0:=Decidable.not_not.1 hc0;have hne:=U9 hl;obtain rfl:s=tx:=(htx ⟨hc0,λh=>by have:=hne hc0;rw[h]at this;cases this⟩).symm;refine rn 5 ?_;refine Fc (SM s (Vb s).1 A c _ Aa hnb2.1 hnd (λx hx=>by have:=(hnb2.2 x hx).1;have:=hnb2.1;omega) (λx _=>⟨UniC.all _,λ_=>UniC.all _⟩) 32 Aa 0 1 Aa (hne hc0) _ (hG.ext hF.same) hQ.rep) ?_;rintro _ w ⟨ct,rfl,hRt,hE⟩;obtain⟨qt,rfl,-⟩:=Pe hRt;have hT:=RX.made (ids:=[b2,b1]) hF.same.size (λx hx=>hF.lt_ids hx) hRt;clear hRt hQ;have hF:=hF.ext hE;refine rn 2 ?_;intro w hF hE;have hT:=hT.store hE Da;refine rn 4<|Rf<|Yd λ_ hr=>Nc (Mi hr (l:=qt.cells) O qZ uZ O (hF.cellsAll 1 O) (v:=J<|((Vb s).2.1:Nat)) O (y:=J 0) O) ?_;have e:Ab s=(Ld s (Vb s).1 32 0,(Vb s).2.1,0):=by unfold Ab;rw[tQ λh=>h hc0]
 rw[e]
 ·exact⟨_,O,hT.done,hF.same⟩
def Om(V:Nat->Nat->Prop):List Int->Nat->Nat->Prop
  | [],a,e=>a<=e
  | k::ks,a,e=>∃b:Nat,(a:Int)<=k/\V k.toNat b/\Om V ks b e
def As(l:List Nd):Nat->Nat->Nat->Prop
  | 0,_,_=>False
  | d+1,n,e=>n<e/\∃x,l[n]? = some x/\Om (As l d) x.kids (n+1) e
theorem Dn{l:List Nd}:∀{d n e:Nat},As l d n e->n<e
  | 0,_,_,h=>h.elim
  | _+1,_,_,h=>h.1
theorem Tw{V:Nat->Nat->Prop}(hV:∀a b,V a b->a<b):∀{ks:List Int}{a e:Nat},Om V ks a e->a<=e
  | [],_,_,h=>h
  | k :: ks, a, e, ⟨b, h1, h2, h3⟩ => by
    have:=hV _ _ h2;have:=Tw hV h3;omega
theorem Er{V V':Nat->Nat->Prop}(hV:∀a b,V a b->a<b):∀{ks:List Int}{a e:Nat},(∀x y,a<=x->y<=e->V x y->V' x y)->Om V ks a e->Om V' ks a e
  | [],_,_,_,h=>h
  | k :: ks, a, e, hh, ⟨b, h1, h2, h3⟩ => by
    have hb:=Tw hV h3;have:=hV _ _ h2;exact⟨b,h1,hh _ _ Aa hb h2,Er hV (λx y h4 h5=>hh x y Aa h5) h3⟩
theorem Br{l l':List Nd}:∀{d n e:Nat},(∀i,n<=i->i<e->l[i]? = l'[i]?)->As l d n e->As l' d n e
  | 0,_,_,_,h=>h.elim
  | d+1,n,e,hh,⟨h1,x,h2,h3⟩=>⟨h1,x,(hh n (gQ _) h1).symm.trans h2,Er (λ_ _=>Dn) (λa b h4 h5 h6=>Br (λi h7 h8=>hh i Aa Aa) h6) h3⟩
theorem B6{V:Nat->Nat->Prop}{k:Int}{e e':Nat}(hk:(e:Int)<=k)(hv:V k.toNat e'):∀{ks:List Int}{a:Nat},Om V ks a e->Om V (ks++[k]) a e'
  | [],a,h=>⟨e',by have h:a<=e:=h;omega,hv,gQ _⟩
  | _::_,_,⟨b,h1,h2,h3⟩=>⟨b,h1,h2,B6 hk hv h3⟩
def OC(kid:Ps × List Str->Bool × Ps × List Str)(d:Nat):Prop:=∀st,NP st.1->(kid st).1=true->As (kid st).2.1.nodes d (aL st.1.nodes) (aL (kid st).2.1.nodes)
theorem V6{kid:Ps × List Str->Bool × Ps × List Str}{d:Nat}(hk:P6 kid)(hg:OC kid d){len:Nat}(hlen:len<=65536)(n:Nat)(closing:Int):∀(g:Nat)(st:Ps × List Str)(x:Nd),NP st.1->st.1.nodes[n]? = some x->Om (As st.1.nodes d) x.kids (n+1) (aL st.1.nodes)->(Vi kid len n closing g st).1=true ->
    ∃x',(Vi kid len n closing g st).2.1.nodes[n]? = some x'/\Om (As (Vi kid len n closing g st).2.1.nodes d) x'.kids (n+1) (aL (Vi kid len n closing g st).2.1.nodes)
  | 0,st,x,_,_,_,h=>by cases h
  | g + 1, (p, had), x, hb, hx, hK, h => by
    have h1:=hk (p,had) hb;have h2:=hg (p,had) hb;rw[Vi]at h ⊢;dsimp only at h h1 h2 hx hK hb ⊢;by_cases h0:(kid (p,had)).1=false
    ·rw[uQ h0]at h;cases h
    have h0' : (kid (p, had)).1 = true := by simpa using h0
    rw[tQ h0]at h ⊢;have h2:=h2 h0';have hlt:=h1.2.2 h0';obtain⟨hn,hxe⟩:=List.getElem?_eq_some_iff.1 hx;generalize (kid (p,had)).2.1=q at h h1 h2 hlt ⊢;obtain⟨y,hy⟩:=h1.2.1;have hx2:q.nodes[n]? = some x:=by rw[<-hy,List.getElem?_append_left hn];exact hx
    have hold:∀i,i<aL p.nodes->q.nodes[i]? = p.nodes[i]?:=λi hi=>by rw[<-hy,List.getElem?_append_left hi]
    have hnq:n<aL q.nodes:=Aa
    have hset:addKid q.nodes n (aL p.nodes:Int) (p.lt:Int) (q.here len:Int)=q.nodes.set n { x with kids:=x.kids++[(aL p.nodes:Int)],pcs:=x.pcs++[((p.lt:Int),((q.here len:Nat):Int))] }:=by
      unfold addKid;rw[hx2]
    have hNP:=Zz (b:=true) (len:=len) hb hn ⟨h1.1,h1.2.1,λ_=>hlt⟩ hlt hlen;have hK2:Om (As (addKid q.nodes n (aL p.nodes:Int) (p.lt:Int) (q.here len:Int)) d) (x.kids++[(aL p.nodes:Int)]) (n+1) (addKid q.nodes n (aL p.nodes:Int) (p.lt:Int) (q.here len:Int)).length:=by
      rw[Fv];refine B6 (e:=aL p.nodes) (Int.le_refl _) ?_ ?_
      ·rw[Int.toNat_natCast]
       refine Br (λi h3 h4=>?_) h2;rw[hset,List.getElem?_set_ne Aa]
      refine Er (λ_ _ => Dn) (λa b h3 h4 h5 => Br (λi h6 h7 => ?_) h5) hK;rw[hset,List.getElem?_set_ne Aa,hold i Aa]
    have ZO:(addKid q.nodes n (aL p.nodes:Int) (p.lt:Int) (q.here len:Int))[n]? = some { x with kids:=x.kids++[(aL p.nodes:Int)],pcs:=x.pcs++[((p.lt:Int),((q.here len:Nat):Int))] }:=by
      rw[hset,List.getElem?_set_self hnq]
    split at h
    ·rename_i h3;rw[uQ h3];dsimp only;rw[Jb];exact⟨_,ZO,hK2⟩
    rename_i h3;rw[tQ h3]
    split at h
    ·cases h
    rename_i h4;rw[tQ h4]
    exact V6 hk hg hlen n closing g _ _ hNP.skip (by rw[Jb];exact ZO) (by rw[Jb];exact hK2) h
def T7{kid:Ps × List Str->Bool × Ps × List Str}(hk:P6 kid)(hg:OC kid d){len:Nat}(hlen:len<=65536)(n:Nat)(closing:Int)(st:Ps × List Str)(x:Nd)(hb:NP st.1)(hx:st.1.nodes[n]? = some x)(hx0:x.kids=[])(hn:aL st.1.nodes=n+1)(h:(Ec kid len n closing st).1=true) :
    ∃x',(Ec kid len n closing st).2.1.nodes[n]? = some x'/\Om (As (Ec kid len n closing st).2.1.nodes d) x'.kids (n+1) (aL (Ec kid len n closing st).2.1.nodes):=by
  have hK:Om (As st.1.nodes d) x.kids (n+1) (aL st.1.nodes):=by rw[hx0,hn];exact gQ _
  unfold Ec at h ⊢;split at h
  ·rename_i h1;rw[uQ h1];dsimp only;rw[Jb];exact⟨x,hx,hK⟩
  rename_i h1;rw[tQ h1];exact V6 hk hg hlen n closing _ st x hb hx hK h
def IP(s:Str)(d:Nat):Prop:=∀kf kt p,kf<=65536->kt<=65536->NP p->(Wa s d kf kt p).1=true->As (Wa s d kf kt p).2.nodes d (aL p.nodes) (aL (Wa s d kf kt p).2.nodes)
def TF(h:IP s d):OC (Mb s (Wa s d)) d:=λst hb h1=>by
  obtain⟨p,had⟩:=st;dsimp only at hb;unfold Mb at h1 ⊢;dsimp only at h1 ⊢;split at h1
  ·cases h1
  rename_i t r hr
  split at h1
  ·cases h1
  rename_i h2
  split at h1
  ·cases h1
  rename_i h3
  split at h1
  ·cases h1
  rename_i h4
  have ht:=hb.tk t bF;have h5:=h t.f t.t p.skip.skip ht.1 ht.2 hb.skip.skip h1;rw[Jb,Jb]at h5;simp only[hr,tQ h2,tQ h3,tQ h4];exact h5
theorem M2{s:Str}(hs:aL s<=65536):∀d:Nat,IP s d
  | 0 => λkf kt p _ _ _ h => by
    rw[Wa]at h;split at h <;> cases h
  | d + 1 => λkf kt p hkf hkt hb h => by
    have ih:=M2 hs d;by_cases hk:Tc p.kind=0
    ·rw[Tt hk]at h;cases h
    obtain⟨t,r,hr⟩:=Hn hk;rw[Si hr]at hk;by_cases h2:aL p.nodes=4096
    ·rw[Jt (by rw[Si hr];exact hk) h2]at h;cases h
    have e:=Qm (s:=s) (d:=d) (kf:=kf) (kt:=kt) hr hk h2 rfl;have hNP:=QO hb hr hkf hkt Aa;have hq:(En p t kf kt).skip.nodes=p.nodes++[KG t kf kt]:=by rw[Jb];rfl
    have hx:(En p t kf kt).skip.nodes[aL p.nodes]? = some (KG t kf kt):=by rw[hq,List.getElem?_append_right<|gQ _,Nat.sub_self];rfl
    have hl:aL (En p t kf kt).skip.nodes=aL p.nodes+1:=by rw[hq,dQ];rfl
    rw[e]at h ⊢;have key:∀rr:Bool × Ps,(∃x',rr.2.nodes[aL p.nodes]? = some x'/\Om (As rr.2.nodes d) x'.kids (aL p.nodes+1) rr.2.nodes.length)->As (Q9 (aL p.nodes) rr).2.nodes (d+1) (aL p.nodes) (Q9 (aL p.nodes) rr).2.nodes.length:=λrr ⟨x',h3,h4⟩=>by
      obtain⟨hlt,-⟩:=List.getElem?_eq_some_iff.1 h3;have es:setTo rr.2.nodes (aL p.nodes) rr.2.lt=rr.2.nodes.set (aL p.nodes) { x' with t:=rr.2.lt }:=by unfold setTo;rw[h3]
      unfold Q9;dsimp only;rw[P0];refine⟨hlt,{ x' with t:=rr.2.lt },by rw[es,List.getElem?_set_self hlt],Er (λ_ _=>Dn) (λa b h5 h6 h7=>Br (λi h8 h9=>?_) h7) h4⟩;rw[es,List.getElem?_set_ne Aa]
    have h':((if Tc t.k=5 then ((Ec (Xh s d) (aL s) (aL p.nodes) 5 ((En p t kf kt).skip,[])).1,(Ec (Xh s d) (aL s) (aL p.nodes) 5 ((En p t kf kt).skip,[])).2.1) else if Tc t.k=6 then ((Ec (Mb s<|Wa s d) (aL s) (aL p.nodes) 3 ((En p t kf kt).skip,[])).1,(Ec (Mb s<|Wa s d) (aL s) (aL p.nodes) 3 ((En p t kf kt).skip,[])).2.1) else (true,(En p t kf kt).skip)):Bool × Ps).1=true:=h;refine key _ ?_;by_cases h5:Tc t.k=5
    ·rw[uQ h5]at h' ⊢
     exact T7 (kid:=Xh s d) (G4<|Yf hs d) (λst hb h6=>ih 0 0 st.1 Aa Aa hb h6) hs _ 5 ((En p t kf kt).skip,[]) _ hNP hx O hl h'
    rw[tQ h5]at h' ⊢;by_cases h6:Tc t.k=6
    ·rw[uQ h6]at h' ⊢
     exact T7 (Ut s<|Yf hs d) (TF ih) hs _ 3 ((En p t kf kt).skip,[]) _ hNP hx O hl h'
    rw[tQ h6];exact⟨_,hx,by rw[hl];exact gQ _⟩
def JA(hl:aL s<=65536)(h:(Vb s).2.2=0):As (Vb s).1 32 0 (aL (Vb s).1)/\NB (Vb s).1:=by
  by_cases hok:(Ib s).2.2=0
  ·obtain⟨b, q, hr⟩ : ∃b q, Wa s 32 0 0 (So s) = (b, q) := ⟨_, _, rfl⟩
   have hp:=D_ (s:=s) λy hy=>(Ux y hy).1;have h1:=Yf hl 32 0 0 (So s) Aa Aa hp;have h2:=Ov s 32 0 0<|So s;have h4:=M2 hl 32 0 0 (So s) Aa Aa hp;have h3:=Gu hok hr;rw[hr]at h1 h2 h4;rw[h3]at h ⊢;cases b with
   | false=>exact absurd h<|h2 rfl
   | true =>
     rw[tQ Ja]at h ⊢;split at h
     ·cases h
     rename_i h5;rw[tQ h5];exact⟨h4 rfl,h1.1.nb⟩
  rw[Uq hok]at h;exact absurd h hok
theorem V5(s:Str)(l:List Nd):∀{d n e:Nat},As l d n e->La (Ld s l d n)<=e-n
  | 0,_,_,h=>h.elim
  | d + 1, n, e, ⟨h1, x, h2, h3⟩ => by
    have key:∀(ks:List Int)(p:Int->Bool)(a:Nat),Om (As l d) ks a e->Ra ((ks.takeWhile p).map λj=>Ld s l d j.toNat)<=e-a:=by
      intro ks
      induction ks with
      | nil=>intro p a _;exact dZ _
      | cons k ks ih =>
        intro p a ⟨b,h4,h5,h6⟩;have h7:=V5 s l h5;have h8:=Dn h5;have h9:=ih p b h6;have h10:=Tw (λ_ _=>Dn) h6;rw[List.takeWhile_cons];split
        ·rw[lZ,Ra];omega
        exact dZ _
    rw[Ld,h2];dsimp only;rw[La];have:=key x.kids (λj:Int=>decide (0<=j)&&decide (j<(aL l:Int))) (n+1) h3;omega
theorem DA(s:Str)(l:List Nd):∀(d n:Nat),Ob (Ld s l d n)<=4*aL s+1100
  | 0, n => by
    unfold Ld;split
    ·rw[Ob,Sg,Sf];simp
    rename_i x _
    have h1:=Nl x.k<|Ya s x.f x.t;have h2:=Af s x.f x.t;rw[Ob,Sg,Sf];omega
  | d + 1, n => by
    unfold Ld;split
    ·rw[Ob,Sg,Sf];simp
    rename_i x _
    have h1:=Nl x.k<|Ya s x.f x.t;have h2:=Af s x.f x.t;dsimp only;rw[Ob];refine Nat.max_le.2 ⟨Aa,Nat.max_le.2 ⟨At λk hk=>?_,No λy hy=>?_⟩⟩
    ·split at hk
     ·obtain⟨j, -, rfl⟩ := nQ.1 hk
      split
      ·exact dZ _
      rename_i y _
      have h3:=Xm (λn=>(Cd n).2)<|Ya s y.kf y.kt;have h4:=Af s y.kf y.kt;omega
     cases hk
    obtain⟨j, -, rfl⟩ := nQ.1 hy;exact DA s l d j.toNat
def E7(s:Str)(l:List Nd)(d n:Nat):aL (Ld s l d n).keys<=aL (Ld s l d n).items:=by
  cases d with
  | zero=>unfold Ld;split <;> exact gQ _
  | succ d =>
    unfold Ld;split
    ·exact gQ _
    simp only[Tree.keys, Tree.items];split <;> simp
def Ml(s:Str)(l:List Nd)(d n:Nat):∀y∈(Ld s l d n).items,∃d' n',y=Ld s l d' n':=λy hy=>by
  cases d with
  | zero=>unfold Ld at hy;split at hy <;> cases hy
  | succ d =>
    unfold Ld at hy;split at hy
    ·cases hy
    obtain⟨j, -, rfl⟩ := nQ.1 hy;exact⟨d,j.toNat,O⟩
def CW(x:Tree):aL x.text<=Ob x:=by cases x;rw[Ob];simp only[Tree.text];omega
def Uz{x:Tree}(h:y∈x.items):La y<=La x:=by have:=Td h;have:=Ck x;omega
def itemR_le{M:Nat}(hM:1<=La y)(h:Ob y<=M)(hy:∀a∈y.items,∀b∈a.items,aL b.keys<=aL b.items) :
    La (Yb y).1.sd.val<=La y/\Ob (Yb y).1.sd.val<=M/\aL (Yb y).1.pr<=M/\aL (Yb y).1.sd.val.keys<=La y:=by
  have h0:La zeroT<=La y:=by simp only[zeroT,La,Ra];omega
  have h1:Ob zeroT<=M:=by simp[zeroT,Ob,Sg,Sf]
  have hz:La (Kj).sd.val<=La y/\Ob Kj.sd.val<=M/\aL Kj.pr<=M/\aL Kj.sd.val.keys<=La y:=⟨h0,h1,dZ _,dZ _⟩;unfold Yb;split
  ·split
   ·rename_i a b e
    split
    ·have ha : a ∈ y.items := by rw[e];simp
     have hb:b∈y.items:=by rw[e];simp
     have h2:=Kn h a ha;have h3:=Kn h b hb;have h4:=CW a;split
     ·rename_i x ex
      have hx:x∈b.items:=by rw[ex];simp
      have h5:=Kn h3 x hx;have h6:=Uz hx;have h7:=Uz hb;have h8:=hy b hb x hx;have h9:=Pf x.items;have h10:=Ck x;exact⟨by dsimp only;omega,h5,by dsimp only;omega,by dsimp only;omega⟩
     exact⟨h0,h1,by dsimp only;omega,dZ _⟩
    exact hz
   exact hz
  exact hz
def CG(hl:aL s<=65536):La (Ab s).1<=4096/\∃l d n,(Ab s).1=.node 0 [] [] []\/(Ab s).1=Ld s l d n:=by
  unfold Ab;dsimp only;split
  ·exact⟨by rw[La,Ra];omega,[],0,0,.inl O⟩
  rename_i h
  obtain⟨h1,h2⟩:=JA hl<|Decidable.not_not.1 h;have:=V5 s _ h1;exact⟨by have:=h2.1;dsimp only;omega,_,_,_,.inr O⟩
theorem V7(t:List Mm):∀(xs:List Tree),Ra ((xs.map λy=>(Yb y).1).map Fm)<=3*aL xs+(xs.map λy=>La (Yb y).1.sd.val).sum
  | []=>by simp[Ra]
  | x :: xs => by
    have h:=V7 t xs;have h2:La (Fm (Yb x).1)<=3+La (Yb x).1.sd.val:=by
      unfold Fm Ed ofT;simp only[La,Ra];split
      ·simp only[Ra];omega
      simp only[Ra];omega
    simp only[lZ,Ra,kQ,List.sum_cons];omega
def F7(hl:aL s<=65536):MmsP (Ll (Ab s).1)/\Ob (Wh (Ll (Ab s).1))<=16777216/\∀m∈Ll (Ab s).1,La m.sd.val<=4096/\Ob m.sd.val<=263244/\aL m.pr<=263244:=by
  obtain⟨hsz,l,d,n,hv⟩:=CG hl;have hmx:Ob (Ab s).1<=263244:=by
    rcases hv with h|h
    ·rw[h];simp[Ob,Sg,Sf]
    rw[h];have:=DA s l d n;omega
  have hit:∀y∈(Ab s).1.items,∃d' n',y=Ld s l d' n':=λy hy=>by
    rcases hv with h|h
    ·rw[h]at hy;cases hy
    rw[h]at hy;exact Ml s l d n y hy
  generalize (Ab s).1=v at hsz hmx hit ⊢;have hB:∀y∈v.items,La (Yb y).1.sd.val<=4096/\Ob (Yb y).1.sd.val<=263244/\aL (Yb y).1.pr<=263244/\aL (Yb y).1.sd.val.keys<=4096:=λy hy=>by
    have h1:=Uz hy;have h2:=Kn hmx y hy;have h3:=itemR_le (Wt y) h2 (λa ha b hb=>by
      obtain⟨d1,n1,rfl⟩:=hit y hy;obtain⟨d2,n2,rfl⟩:=Ml s l d1 n1 a ha;obtain⟨d3,n3,rfl⟩:=Ml s l d2 n2 b hb;exact E7 s l d3 n3)
    exact⟨Aa,h3.2.1,h3.2.2.1,Aa⟩
  have hn:aL v.items<=4096:=by have:=Pf v.items;have:=Ck v;omega
  have hX:Ob (Wh<|Ll v)<=16777216:=by
    unfold Wh Ll;rw[Ob];refine Nat.max_le.2 ⟨Da,Nat.max_le.2 ⟨by simp[Sg],No λx hx=>?_⟩⟩;obtain⟨m,hm,rfl⟩:=nQ.1 hx;obtain⟨y,hy,rfl⟩:=nQ.1 hm;obtain⟨-,h2,h3,-⟩:=hB y hy;unfold Fm Ed ofT;simp only[Ob,Sg,Sf];split
    ·simp only[Sf,cZ];omega
    simp only[Sf,cZ];omega
  refine⟨⟨λm hm=>?_,?_,?_,fQ hX Ja⟩,hX,λm hm=>?_⟩
  ·obtain⟨y, hy, rfl⟩ := nQ.1 hm
   obtain⟨h1,h2,h3,h4⟩:=hB y hy;exact⟨⟨Aa,Sj _ Aa⟩,Aa,Aa⟩
  ·unfold Ll;rw[rQ];omega
  ·have h1 := V7 [] v.items
   have h2:∀xs:List Tree,(∀y∈xs,La (Yb y).1.sd.val<=4096)->(xs.map λy=>La (Yb y).1.sd.val).sum<=aL xs*4096:=by
     intro xs
     induction xs with
     | nil=>intro _;simp
     | cons x xs ih =>
       intro hh;have:=hh x aZ;have:=ih λy hy=>hh y<|iZ _ hy;simp only[lZ,List.sum_cons,kQ];omega
   have h3:=h2 v.items λy hy=>(hB y hy).1;have h4:aL v.items*4096<=4096*4096:=Nat.mul_le_mul_right _ hn;unfold Wh Ll;rw[La];omega
  obtain⟨y, hy, rfl⟩ := nQ.1 hm;exact⟨(hB y hy).1,(hB y hy).2.1,(hB y hy).2.2.1⟩
def OI(hl:aL s<=65536):MmsP (Ll (Ab s).1):=(F7 hl).1
def New.same{i:List Nat}{b:Nat}(h:New w0 i w b)(hE:Same [] w w'):New w0 i w' b:=⟨h.1,Nat.lt_of_lt_of_le h.2.1 hE.size,h.2.2.1,Pq hE h.2.2.2⟩
def Rep.btw{d:D}{cs:List Value}(h:Rep (Btw w0 w) w' d cs)(hE:Same [] w w'):Rep (Btw w0 w') w' d cs:=h.weaken λb hb hl=>⟨hb.1,hl,Pq hE hb.2.2⟩
theorem X_(s:Str)(hl:aL s<=65536)(w0:World)(hG:Gl w0):Calls prog 10 #[I s] w0 (Za λv w'=>∃A c,v=.tuple #[.slice A (aL (Ih s).1) c,.bool (Ih s).2]/\Rep (Btw w0 w') w' (Jd (Ih s).1) [.slice A (aL (Ih s).1) c]/\Same [] w0 w'):=by
 have hMP:=OI hl;refine Ea func10 ntmps10 ?_;intro hF;refine rn 9<|Fc (RS s hl _<|hG.ext hF.same) ?_;rintro _ w ⟨ct,rfl,hRv,hE⟩;obtain⟨rv,rfl,-⟩:=Pe hRv;have hv:RX w0 [] w [Na (Ab s).1] rv.cells:=RX.made hF.same.size Da hRv;obtain⟨hp1,hp2,hp3,hp4,-,-⟩:=Dd hRv;clear hRv;have hF:=hF.ext hE;refine rn 5 ?_;intro b1 w hb1 hF hE;have hv:=hv.ext hE;refine rn 11 ⟨λhg0=>?_,λhg0=>?_⟩;refine rn 14 ?_;rw[Rl jR];exact⟨none,0,O,Rep.nil_slice 0 Aa none,hF.same⟩;refine rn 7 ⟨λhc0=>?_,λhc0=>?_⟩;have h0:¬((Ab s).2.2=0/\(Ab s).1.kind=5):=by rintro⟨h1,h2⟩;simp_all
 refine rn 7 ?_;rw[Rl jR];exact⟨none,0,O,Rep.nil_slice 0 Aa none,hF.same⟩;have h0:(Ab s).2.2=0/\(Ab s).1.kind=5:=by constructor <;> simp_all
 refine rn 17<|Sa (λμ σ w=>∃(j:Nat),∃(AO:Option Addr),∃(cO:Nat),∃(out:List (Nat × Obj)),∃(valsO:List Value),μ=aL (Ab s).1.items-j/\(j<=aL (Ab s).1.items)/\(SlB 44 6 AO j cO valsO out)/\(RX w0 (ids out) w [Na (Ab s).1] rv.cells)/\(RX w0 (ids out) w ((((Ab s).1.items.take j).map λy=>(Yb y).1).map Sw) valsO)/\((((Ab s).1.items.take j).all λy=>(Yb y).2)=true)/\AllEq σ [(0,I s),(7,.slice AO j cO),(28,.slice rv.B rv.m rv.e),(29,J<|(rv.m:Nat)),(30,J<|(j:Int))]/\FR w0 [] ([(b1,.cells (rv.cells).toArray 36)]++(out++[])) w) _ ⟨0,none,0,[],[],O,dZ _,SlB.nil _ _,hv,RX.nil,O,Va,hF⟩ ?_;rintro μ σ w ⟨j,AO,cO,out,valsO,rfl,hj,hS,hv,hO,hall,hzz,hF⟩;have hilen:aL (Ab s).1.items<=1000000:=by have:=hMP.n;simpa[Ll]using this
 refine Wf hzz 7 ⟨λhc1=>?_,λhc1=>?_⟩;refine rn 5 ?_;have hjl:j<aL (Ab s).1.items:=Aa
 obtain⟨aad,a_,aA,ak,aX⟩:=Rep.tree_at (i:=j) (Dd hv.rep).2.2.2.2.2 hjl;replace aX:=RX.one aX;refine rn 1<|Ba (v:=.pointer<|some<|aad.add<|j*4) (Ca (i:=(j:Int)) Fd aA)<|Ba (v:=.agg (a_.cells).toArray) (Ma (l:=a_.cells) qZ uZ O O ak) ?_;refine rn 1 ?_;intro b2 w hb2 hF hE;have hv:=hv.ext hE;have hO:=hO.ext hE;replace aX:=aX.ext hE;refine rn 5 ?_;have hszp:=hF.same.size;refine Fc (item_c2 (Ab s).1.items[j] a_ _ _ aX.rep) ?_;rintro _ w ⟨z,rfl,hZ,hpl,hE⟩;have hz:RX w0 (ids out) w [Sw (Yb (Ab s).1.items[j]).1] (Lp (Yb (Ab s).1.items[j]).1.pr z):=RX.one<|V8 (hZ.weaken λb hb hl=>New.same hb hE) hpl;have hv:=hv.ext hE;have hO:=hO.ext hE;have hF:=hF.ext hE;clear hE hZ;refine rn 4 ?_;intro b3 w hb3 hF hE;have hv:=hv.ext hE;have hO:=hO.ext hE;have hz:=hz.ext hE;refine rn 11 ⟨λhc2=>?_,λhc2=>?_⟩;have h2:(Yb (Ab s).1.items[j]).2=false:=aS hc2
 refine rn 7 ?_;rw[Rl (λh=>by have:=List.all_eq_true.1 h.2.2.1 _<|eQ hjl;rw[h2]at this;cases this)];exact⟨none,0,O,Rep.nil_slice 0 Aa none,hF.same⟩;have h2:(Yb (Ab s).1.items[j]).2=true:=aS hc2
 have hall2:(((Ab s).1.items.take (j+1)).all λy=>(Yb y).2)=true:=by rw[iQ hjl,List.all_append,hall];simp[h2]
 refine rn 6 ?_;intro b4 w hb4 hF hE;have hv:=hv.ext hE;have hO:=hO.ext hE;have hz:=hz.ext hE;refine PK hS (len':=(j+1)) (ys:=valsO++Lp (Yb (Ab s).1.items[j]).1.pr z) (O) (O) ?_;intro A1 c1 out_1 w hS1_out hF hE hnew;have hsub:∀x∈out.map (·.1),x∈ids out:=λx hx=>hx;have hO:=(hO.append hz).grow hE hnew hsub;have hv:=hv.grow hE hnew hsub;clear hsub hz;refine rn 5<|Zb (Wd<|((j+1:Nat):Int)) ?_;refine rn 2 ?_;refine Ha ⟨_,?_,j+1,A1,c1,out_1,valsO++Lp (Yb (Ab s).1.items[j]).1.pr z,rfl,Aa,hS1_out,hv.sub zM,by rw[iQ hjl,jQ,jQ];exact hO.sub zM,hall2,Va,hF.su⟩;omega;refine rn 6 ?_;obtain rfl:j=aL (Ab s).1.items:=Aa
 have hol:aL (Ll (Ab s).1)=aL (Ab s).1.items:=by simp[Ll]
 have hXO:Rep (Btw w0 w) w (Jd<|Ll (Ab s).1) [.slice AO (aL (Ab s).1.items) cO]:=hS.rep (pre:=[_]) (post:=[]) hF (ds:=(Ll (Ab s).1).map Sw) (by rw[List.take_length]at hO;exact hO) (by rw[rQ];exact hol);have hSv:=HK (Ll (Ab s).1) AO cO _ w (by rw[hol];exact hXO) hMP<|hG.ext hF.same;rw[hol]at hSv;refine Fc (hSv) ?_;rintro _ w ⟨rfl,hE⟩;have hXO:=(hXO.ext hE).btw hE;have hF:=hF.ext hE;refine rn 13 ⟨λhg2=>?_,λhg2=>?_⟩;refine rn 14 ?_;rw[Rl λh=>Ey h.2.2.2 qX];exact⟨none,0,O,Rep.nil_slice 0 Aa none,hF.same⟩;refine rn 7 ⟨λhc3=>?_,λhc3=>?_⟩;refine rn 7 ?_;rw[Rl λh=>Ey h.2.2.2 qX];exact⟨none,0,O,Rep.nil_slice 0 Aa none,hF.same⟩;refine rn 10 ?_;rw[List.take_length]at hall;have hsv:Cm (Ll (Ab s).1)=(s,0):=Prod.ext qX qX;have e:Ih s=(Ll (Ab s).1,true):=by unfold Ih;rw[uQ ⟨h0.1,h0.2,hall,hsv⟩]
 rw[e];exact⟨_,_,by rw[hol],by rw[hol];exact hXO,hF.same⟩
def DU(s:Str)(hl:aL s<=65536)(w0:World)(hG:Gl w0):Calls prog 10 #[I s] w0 (Za λv w'=>∃A c,v=.tuple #[.slice A (aL (Ih s).1) c,.bool (Ih s).2]/\Rep (λ_=>True) w' (Jd (Ih s).1) [.slice A (aL (Ih s).1) c]/\Same [] w0 w'):=by
  refine Gg (X_ s hl w0 hG) ?_;rintro v w' ⟨A,c,hv,hR,hE⟩;exact⟨A,c,hv,hR.anyS,hE⟩
end Go.Scarf
