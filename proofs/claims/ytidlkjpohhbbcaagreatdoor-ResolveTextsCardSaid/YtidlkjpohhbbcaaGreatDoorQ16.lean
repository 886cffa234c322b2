/- A part of the proof. -/
import Derived.Test.YtidlkjpohhbbcaaGreatDoorEn
import Derived.Scope
import Derived.Laws.Runes
import Derived.Lib.ConvBytes
set_option linter.all false
set_option maxHeartbeats 8000000
set_option maxRecDepth 10000
namespace Go.Scarf
open List renaming length->aL
open Go.RowKit Go.Proofs Go.Proofs.Tryz
end Go.Scarf
namespace Go.Scarf.Fn
open List renaming length->aL
open Go.Scarf Go.RowKit Go.Proofs Go.Proofs.Tryz
variable {id:Nat}
section
variable {r:Option Nat}{m:Nat}{P:Program}{md:Region.Mode}
def F0{ops:Array Oper}{i:Nat}{a:Act}{w:World}{K K':Act->World->Prop}{Q:Exit->Act->World->Prop}(h:∀a w,K a w->K' a w)(hh:opStep P ops i K a w):wpOpIn (Fw r) m P ops Q i K' a w:=by
  unfold opStep at hh;unfold wpOpIn;cases hi:ops[i]? with
  | none=>simp only[hi]at hh ⊢;exact h _ _ hh
  | some o =>
    simp only[hi]at hh ⊢;by_cases hw:Region.wanted o (yielded ops a.tmps)=true
    ·rw[uQ hw]at hh ⊢
     refine⟨λ_ _=>trivial,?_⟩;unfold StepN at hh;cases hr:(execOp a.eval o).run P w with
     | ok x w' =>
       rw[hr]at hh;cases x <;> simp only[]at hh
       case value v=>rw[Nv<|QA hr λ_ h=>zX,hr,Oper.uponIn_value];exact h _ _ hh
       case skip=>rw[Nv<|QA hr λ_ h=>zX,hr,Oper.uponIn_skip];exact h _ _ hh
       case enter f args =>
         rw[Nv<|QA hr λ_ h=>zX,hr,Oper.uponIn_enter];exact⟨λh=>zX,(R8 hh).mono λe w'' ⟨v,he,hk⟩=>by subst he;exact h _ _ hk⟩
     | halt x w'=>rw[hr]at hh;simp only[]at hh
    rw[tQ hw]at hh ⊢;exact⟨λ_ _=>trivial,h _ _ hh⟩
theorem Io{ops:Array Oper}{zs:Lt}{Q:Act->World->Prop}{Q':Exit->Act->World->Prop}(hq:∀a w,Q a w->Q' .normal a w) :
    ∀(fuel:Nat)(C:World->Prop)(listed:Array Bool)(a:Act)(w:World),W3 P md ops zs Q fuel C listed a w->wpAnyIn (Fw r) m P md ops Q' fuel listed a w
  | 0,_,_,_,_,h=>⟨h.1,hq _ _ h.2⟩
  | fuel+1,C,_,_,_,h=>⟨λh0=>hq _ _<|h.2.1 h0,λi hi=>F0 (λa' w' hh=>by
      by_cases hz:zs.contains i=true
      ·rw[uQ hz]at hh;exact Io hq fuel _ _ a' w' hh.2
      rw[tQ hz]at hh;exact Io hq fuel _ _ a' w' hh.2)<|h.2.2 i hi⟩
variable {R:Exit->Act->World->Prop}{n:Nat}{k:Kt}{s s0 s1:Nat->Value}{w w0:World}{ops:List Oper}{zs:Lt}{Ds:List Nat}{bs_:List (Nat × Obj)}
theorem IN(order:Ord)(zs:Lt)(C:World->Prop)(hm:P.follows .mixedOrders=true)(hs:Region.noSelect ops.toArray=true)
    (hB:Oj .any ops.toArray zs true ops.toArray.size order (Array.replicate ops.toArray.size false)=true) (hC:C w.drew) (h:Dg P (post r m [] P R n k) n ops .done zs order C s w.drew):Cg r m [] P R n (.region id ops.toArray true) k s w:=by
  unfold Cg;refine wpIn_region_any hm<|Io (zs:=zs) (Q:=λa w=>post r m [] P R n k .normal a w) (λ_ _ h=>h) _ C _ _ _ ?_;unfold Dg at h;exact (Mn hs order).1 _ C (Array.replicate ops.toArray.size false) s w.drew hB hC h
def Gb(zs:Lt)(order:Ord)(hF:FR w0 Ds bs_ w)(h:∀w',FR w0 Ds bs_ w'->Same [] w w'->∃C:World->Prop,C w'/\Dg P (post r m [] P R n k) n ops .done zs order C s w')(hm:P.follows .mixedOrders=true:=by kernel_rfl)(hs:Region.noSelect ops.toArray=true:=by kernel_rfl)(hB:Oj .any ops.toArray zs true ops.toArray.size order (Array.replicate ops.toArray.size false)=true:=by kernel_rfl):Cg r m [] P R n (.region id ops.toArray true) k s w:=by
  have hE:Same [] w w.drew:=Same.drew w;obtain⟨C,hC,hD⟩:=h w.drew (hF.ext hE) hE;exact IN order zs C hm hs hB hC hD
def d_nil{C:World->Prop}(h:Eg r m [] P R n .normal k s w):Dg P (post r m [] P R n k) n ops .done zs .nil C s w:=by
  unfold Eg at h;have h':Go.Scarf.Eg P (post r m [] P R n k) n .normal .done s w:=by unfold Go.Scarf.Eg;exact h
  exact Go.Scarf.d_nil h'
def recP(fn:FuncId)(n:Nat)(s:Nat->Value)(ps:Array Tmp)(as_ body:Code)(D:Nat)(st:LoopState):Obj:=.loop { state:=st,pending:=some .ret,fn:=fn,tmps:=(Rw n s []).tmps,params:=ps,assign:=as_,body:=body,defers:=D }
variable {fn l D:Nat}{ps:Array Tmp}{as_ body:Code}{Rd:Ending->World->Prop}{RC RJ:LoopState->Obj}
def FY{g:Operand}{gf:FuncId}{lb:Array Value}(hF:FR w0 Ds bs_ w)(hg:ev n s g=.func (.func gf) #[] lb)(eg:Fa P gf)
    (h:∀fn D l w' RC RJ,RC=Jw fn n s ps as_ body D->RJ=recP fn n s ps as_ body D->FR w0 Ds ((l,RC .ready)::(D,.deferred (some []))::bs_) w'->Same [] w w' ->
      Calls P gf (#[.func (.yield l) #[] #[]]++lb) w' (Za λ_ w3=>(w3.heap[l]? = some (RC .ready)/\Eg none m (mark D) P R n .normal k s (w3.putObj l (RC .exhausted)))\/(w3.heap[l]? = some (RJ .done)/\Eg none m (mark D) P R n .ret k s (w3.putObj l (RJ .exhausted))))) (hk:GS k=true:=by rfl) :
    Cg none m [] P R n (.rangeFunc g ps as_ body) k s w:=by
  unfold Cg;refine wpIn_rangeFunc ?_;intro fn _;have hF1:=hF.alloc<|.deferred<|some [];have hF2:=hF1.alloc<|Jw fn n s ps as_ body w.heap.size .ready;rw[World.size_alloc]at hF2;refine⟨w.heap.size+1,mark w.heap.size,(w.alloc<|.deferred<|some []).alloc (Jw fn n s ps as_ body w.heap.size .ready),{ target:=.fn (.func gf) lb,args:=#[.func (.yield<|w.heap.size+1) #[] #[]] },(w.alloc<|.deferred<|some []).alloc (Jw fn n s ps as_ body w.heap.size .ready),gf,
    #[.func (.yield<|w.heap.size+1) #[] #[]]++lb,(w.alloc<|.deferred<|some []).alloc (Jw fn n s ps as_ body w.heap.size .ready),?_,?_,?_,?_,λh=>zX,?_⟩
  ·exact run_enterLoop_outer _ _ _ _ _
  ·have hg' : (Rw n s []).eval g = .func (.func gf) #[] lb := by rw[Bo];exact hg
   simp only[resolve,hg'];simp[go_sem]
  ·intro f' _;trivial
  ·simp[invoke,go_sem,eg _ _]
  refine (R8<|h fn w.heap.size (w.heap.size + 1) _ _ _ O O hF2<|(Same.alloc w _).trans (Same.alloc _ _)).mono ?_;rintro e w3 ⟨v,rfl,⟨hl,hE⟩|⟨hl,hE⟩⟩
  ·refine⟨none, _, run_endLoop hl (λh => zX), ?_⟩
   have hE':=hE;unfold Eg at hE';rw[Q4 (ds':=[]) hk]at hE';exact hE'
  refine⟨some .ret, _, run_endLoop hl (λh => zX), wpIn_ret ?_⟩;have hE':=hE;unfold Eg at hE';rw[Q4 (ds':=[]) hk]at hE';exact hE'
def ZT{t:Kt}(hRC:RC=Jw fn n s0 ps as_ body D)(hRJ:RJ=recP fn n s0 ps as_ body D)(hl:w.heap[l]? = some (RC .busy))(h:Rd (.returned (.bool false)) (w.putObj l (RJ .done))) :
    Cg (some l) m [] P (roundPost P l Rd) n .ret t s1 w:=by
  subst hRC hRJ;exact Rf<|Yd ⟨_,_,run_endRound (some .ret) hl,h⟩
end
def fperm_(ex A sb:List (Nat × Obj)):(A++(ex++(sb++[]))).Perm (ex++((A++sb)++[])):=by
  rw[qQ,qQ,<-sQ,<-sQ];exact List.Perm.append_right sb List.perm_append_comm
def bperm_(ex A sb:List (Nat × Obj)):(ex++((A++sb)++[])).Perm (A++(ex++(sb++[]))):=(fperm_ ex A sb).symm
theorem J0:∀(f:Nat)(s:Str)(a:Nat)(out:List Tk),((Dl f s a out).2.2=0->(Dl f s a out).2.1=aL s)/\((Dl f s a out).2.2≠0->(Dl f s a out).1=[])
  | 0,s,a,out=>⟨λh=>zX,λ_=>rfl⟩
  | f + 1, s, a, out => by
    rw[Dl];by_cases h1:a<aL s
    ·rw[uQ h1]
     by_cases h2:(Ae s a).2=0
     ·rw[uQ h2];exact J0 f s _ _
     rw[tQ h2];exact⟨λh=>absurd h h2,λ_=>rfl⟩
    rw[tQ h1];exact⟨λ_=>rfl,λh=>absurd rfl h⟩
def toks_at{s:Str}(h:(Ib s).2.2=0):(Ib s).2.1=aL s:=by
  unfold Ib at h ⊢;split at h
  ·cases h
  rename_i h1;rw[tQ h1];exact (J0 _ _ _ _).1 h
def toks_nil{s:Str}(h:(Ib s).2.2≠0):(Ib s).1=[]:=by
  unfold Ib at h ⊢;split at h
  ·rename_i h1;rw[uQ h1]
  rename_i h1;rw[tQ h1];exact (J0 _ _ _ _).2 h
set_option maxHeartbeats 4000000 in
set_option maxRecDepth 10000 in
def all1E_c(s:Str)(hU:UniC s)(hls:aL s<=1000000)(w0:World)(hG:Gl w0)(l Bn:Nat)(SU:List Tk->List (Nat × Obj)->Prop)(SE:Nat->Int->List (Nat × Obj)->Prop)(hBn:∀pre u,SU pre u->(Bn,.cells #[I s] 9)∈u)(hY:∀pre (ex:List (Nat × Obj)) u w x (er:Int),aL pre<65536->(er=0->Ls x)->SU pre u->FR w0 [] (ex++(u++[])) w->YieldAt (Fw none) 2 prog l #[tkA x,J er] w (λe w'=>e=.returned (.bool (decide (er=0)))/\∃u',(if er=0 then SU (pre++[x]) u' else SE x.f er u')/\FR w0 [] (ex++(u'++[])) w'))(u:List (Nat × Obj))(hSU:SU [] u)(w:World)(hF0:FR w0 [] u w):Calls prog 230 #[.func (.yield l) #[] #[],V Bn] w (Za λv w'=>∃u,(if (Ib s).2.2=0 then SU (Ib s).1 u else SE (Ib s).2.1 (Ib s).2.2 u)/\FR w0 [] u w'):=by
 refine FC (m:=3) func230 O ntmps230 (Nat.le_of_ble_eq_true O) (YK _ _) ?_;have hF:FR w0 [] ([]++(u++[])) w:=aS hF0
 refine Wi<|Wi<|Be ?_;refine Ba (v:=I s) (Xa sZ (hx:=O) jV) ?_;refine Zb (ylx jX O)<|Zb (ygt O O)<|Fk<|Vh ?_;refine G5 O (λhc0=>?_) λhc0=>?_;refine Wi<|Be<|Zb (ymu) ?_;refine Ba (w':=w) (v:=.agg #[J 0,J 0,J 0]) Ua ?_;have e:Ib s=([],0,3):=by rw[Ib,uQ Aa]
 have hyy:=hY [] [] u w ⟨0,0,0⟩ 3 Ja (λh=>zX) hSU hF;refine SD hyy (λhy=>O5 O O O hy) ?_;clear hF hyy;rintro e w ⟨rfl,u2,hSU2,hF⟩;rw[tQ Ja]at hSU2;refine⟨.bool false,O,?_⟩;refine Fk<|Vh ?_;refine Rf<|Yd<|Nc (OP O) ?_;exact⟨u2,by rw[e,tQ Ja];exact hSU2,by simpa using hF⟩;have hl:aL s<=65536:=Aa
 refine Gw<|Vh<|Wi<|Be<|Zb (yai O)<|Fk<|Vh<|Ju ?_;refine Sa (λμ σ w=>∃(f:Nat),∃(a:Nat),∃(pre:List Tk),∃(u:List (Nat × Obj)),μ=aL s-a/\(Dl f s a pre=Ib s/\aL s-a<f/\a<=aL s/\aL pre<=a)/\(SU pre u)/\AllEq σ [(0,.func (.yield l) #[] #[]),(1,.pointer<|some<|(⟨Bn,0,none⟩:Addr)),(3,J<|(a:Int))]/\FR w0 [] ([]++(u++[])) w) _ ⟨aL s+1,0,[],u,O,⟨by rw[Ib,tQ Aa],Aa,dZ _,gQ _⟩,hSU,⟨O,O,O,trivial⟩,hF⟩ ?_;rintro μ σ w ⟨f,a,pre,u,rfl,hq,hSU,hzq,hF⟩;refine Cg.slots hzq ?_;clear hzq;intro σ;obtain⟨f,rfl⟩:∃g,f=g+1:=⟨f-1,Aa⟩;have hstep:=hq.1;rw[Dl]at hstep;refine Wi<|Wi<|Be<|Zb ymi ?_;refine Ba (v:=I s) (Xa sZ (hx:=O) jV) ?_;refine Zb (ylx jX O)<|Zb (ylt O O)<|Fk<|Vh ?_;refine G5 O (λhc1=>?_) λhc1=>?_;refine Gw<|Vh<|Ju<|Wi<|Be ?_;refine Ba (v:=I s) (Xa sZ (hx:=O) jV) ?_;refine Zb ymi ?_;rw[uQ Aa]at hstep;refine Xb (IU s a hU Aa Aa _<|hG.ext hF.same) (Zd en_231 O O O) ?_;rintro _ w ⟨rfl,hE⟩;have hF:=hF.ext hE;refine Zb (ymt O)<|Zb (yxg O O)<|Zb (yxi O O) ?_;refine X2 hF zeroValue140 sizeOf140 O ?_;rintro b1 w hb1 hF -;refine Zb (yai O)<|Fk<|Vh<|Wi<|Wi<|Be<|Zb (ymu)<|RW (ylg isAgg140 sizeOf140 hF.F 0)<|Zb ymi ?_;rcases Decidable.em ((Ae s a).2=0)with hz|hz
 rw[uQ hz]at hstep;have hto:=Oy (s:=s) (a:=a) Aa hz;have hyy:=hY pre [(b1,.cells (#[J (Ae s a).1.k,J ((Ae s a).1.f:Nat),J ((Ae s a).1.t:Nat)]) 140)] u w (Ae s a).1 (Ae s a).2 Aa (λ_=>⟨hto.2.2.2.1,hto.2.2.2.2,by rw[hto.2.2.1];exact hto.1,Aa⟩) hSU hF;refine SD hyy (λhy=>O5 O O O hy) ?_;clear hF hyy;rintro e w ⟨rfl,u2,hSU2,hF⟩;rw[uQ hz]at hSU2;refine⟨.bool true,by rw[gZ hz],?_⟩;refine Zb (ynb (b:=true) O)<|Zb (ymb O)<|Zb ymi<|Zb (yne O O)<|Zb (ypfb O O)<|Fk<|Vh ?_;refine G5 O (λhc2=>?_) λhc2=>?_;exact absurd hz hc2;refine Gw<|Vh<|Be<|Zb (yfa Fi O)<|Zb (yfa Fy O)<|RW (yli pZ O hF.F 0 O O)<|Zb (yai O)<|Fk<|Dy ?_;refine Ha ⟨_,?_,f,(Ae s a).1.t,pre++[(Ae s a).1],u2,O,(⟨hstep,Aa,hto.2.1,by rw[dQ];show (aL pre)+1<=_;omega⟩),hSU2,⟨O,O,O,trivial⟩,hF.drop 1⟩;omega;rw[tQ hz]at hstep;have hyy:=hY pre [(b1,.cells (#[J (Ae s a).1.k,J ((Ae s a).1.f:Nat),J ((Ae s a).1.t:Nat)]) 140)] u w (Ae s a).1 (Ae s a).2 Aa (λh=>absurd h hz) hSU hF;refine SD hyy (λhy=>O5 O O O hy) ?_;clear hF hyy;rintro e w ⟨rfl,u2,hSU2,hF⟩;rw[tQ hz]at hSU2;refine⟨.bool false,by rw[fZ hz],?_⟩;refine Zb (ynb (b:=false) O)<|Zb (ymb O)<|VQ<|VQ<|Zb (yptb O O)<|Fk<|Vh<|L8 O ?_;refine Rf<|Yd<|Nc (OP O) ?_;exact⟨u2,by rw[<-hstep,tQ hz];exact hSU2,by have:=hF.drop 1;simpa using this⟩;refine KN<|Cr O ?_;refine BL<|XF (OP O) ?_;rw[tQ Aa]at hstep;exact⟨u,by rw[<-hstep,uQ O];exact hSU,by simpa using hF⟩
set_option maxHeartbeats 4000000 in
set_option maxRecDepth 10000 in
def tokensE_c(s:Str)(hU:UniC s)(hl:aL s<=1000000)(w0:World)(hG:Gl w0):Calls prog 112 #[I s] w0 (Za λv w'=>∃A c,v=.tuple #[.slice A (aL (Ib s).1) c,J ((Ib s).2.1:Nat),J (Ib s).2.2]/\Rep (Btw w0 w') w' (Le (Ib s).1) [.slice A (aL (Ib s).1) c]/\(∀y∈(Ib s).1,Ls y)/\Same [] w0 w'):=by
 refine SC (m:=3) func112 O ntmps112 (Nat.le_of_ble_eq_true O) (BN _) ?_;have hF:=FR.start w0 [];refine Wi<|Be ?_;refine Wm (cs:=#[aQ]) hF zeroValue131 O ?_;rintro b1 w hb1 hF -;refine Wm (cs:=#[J 0]) hF zeroValue3 O ?_;rintro b2 w hb2 hF -;refine Wm (cs:=#[J 0]) hF zeroValue25 O ?_;rintro b3 w hb3 hF -;refine Fk<|Vh<|Wi<|Be ?_;refine Wm (cs:=#[aQ]) hF zeroValue131 O ?_;rintro b4 w hb4 hF -;refine Fk<|Vh<|Wi<|Wi<|Be<|Zb (yms O) ?_;refine Xb (all_c s _) (Df en_169 O O) ?_;rintro v w' ⟨ba,rfl,hb,hg,hE⟩;have hF:=FR.takeK hF hE hb hg;clear hE hb hg;refine Fk<|Vh<|Ju ?_;refine FY hF O en_230 ?_;intro fn D l w RC RJ hRC hRJ hF hE;clear hE;refine Gg (all1E_c s hU hl w0 hG l ba (λpre u=>∃A c sb,SlB 140 3 A (aL pre) c (tkCs pre) sb/\(∀y∈pre,Ls y)/\u=(l,RC .ready)::(D,.deferred<|some [])::(ba,.cells #[I s] 9)::(b4,.cells #[.slice A (aL pre) c] 131)::(b3,.cells #[J 0] 25)::(b2,.cells #[J 0] 3)::(b1,.cells #[aQ] 131)::sb) (λat_ er u=>∃A nn c sb,u=(l,RJ .done)::(D,.deferred<|some [])::(ba,.cells #[I s] 9)::(b4,.cells #[.slice A nn c] 131)::(b3,.cells #[J er] 25)::(b2,.cells #[J<|(at_:Nat)] 3)::(b1,.cells #[aQ] 131)::sb) ?_ ?_ _ ⟨none,0,[],SlB.nil _ _,Da,O⟩ w hF) ?_
 ·rintro pre u ⟨A,c,sb,hS,hok1,rfl⟩;simp
 ·rintro pre ex u w x er hpl hxk ⟨A, c, sb, hS, hok1, rfl⟩ hF
  have hF:FR w0 [] ([(l,RC .ready),(D,.deferred<|some []),(ba,.cells #[I s] 9),(b4,.cells #[.slice A (aL pre) c] 131),(b3,.cells #[J 0] 25),(b2,.cells #[J 0] 3),(b1,.cells #[aQ] 131)]++(ex++(sb++[]))) w:=hF.perm<|fperm_ ex _ sb;have hl1:w.heap[l]? = some (RC .ready):=hF.heap (i:=0) rfl;refine JZ hRC hl1<|Cg.slots (l:=[(2,V b1),(3,V b2),(4,V b3),(5,V b4),(10,tkA x),(11,J er)]) ⟨O,O,O,O,O,O,trivial⟩ ?_;clear hl1;intro σ;refine Wi<|Be ?_;refine X2 hF zeroValue140 sizeOf140 O ?_;rintro b5 w hb5 hF -;refine Fk<|Vh<|Be<|Zb (yai O)<|Fk ?_;refine as_endR hRC (hF.heap (i:=1) O) ?_;have hF:=FR.put hF 1 (RC .busy) rfl;generalize w.putObj l (RC .busy)=w at hF ⊢;have hF:FR w0 [] ([(b5,.cells #[J x.k,J<|(x.f:Nat),J<|(x.t:Nat)] 140),(l,RC .busy),(D,.deferred<|some []),(ba,.cells #[I s] 9),(b4,.cells #[.slice A (aL pre) c] 131),(b3,.cells #[J 0] 25),(b2,.cells #[J 0] 3),(b1,.cells #[aQ] 131)]++(ex++(sb++[]))) w:=hF;refine Ju<|Wi<|Wi<|Be<|Zb ymi<|Zb (yne O O)<|Fk<|Vh ?_;refine G5 O (λhc0=>?_) λhc0=>?_
  ·
   refine Wi<|Gb (.of [6]) (bQ [0,1,2,3]<|cQ [4,5,6] .nil) hF ?_;rintro w hF -;refine⟨λwq=>FR w0 [] [(b5,.cells #[J x.k,J<|(x.f:Nat),J<|(x.t:Nat)] 140),(l,RC .busy),(D,.deferred<|some []),(ba,.cells #[I s] 9),(b4,.cells #[.slice A (aL pre) c] 131),(b3,.cells #[J 0] 25)] wq,hF.sub<|.cons_cons _<|.cons_cons _<|.cons_cons _<|.cons_cons _<|.cons_cons _<|.cons_cons _<|.cons _<|.cons _<|List.nil_sublist _,?_⟩;refine CB O (yfa Fi O)<|CB O (yfa Zx O)<|f_Y O (yli pZ O C0 0 O O)<|CB O ymi ?_;refine E4 O 7 (l:=[aQ]) (cs':=#[aQ]) hF sizeOf131 O (v:=aQ) O O (by simp[one]) O (Nat.le_of_ble_eq_true O) O ?_;rintro w hF -;have hF:FR w0 [] ([(b5,.cells #[J x.k,J<|(x.f:Nat),J<|(x.t:Nat)] 140),(l,RC .busy),(D,.deferred<|some []),(ba,.cells #[I s] 9),(b4,.cells #[.slice A (aL pre) c] 131),(b3,.cells #[J 0] 25),(b2,.cells #[J 0] 3),(b1,.cells #[aQ] 131)]++(ex++(sb++[]))) w:=hF;refine⟨hF.sub<|.cons_cons _<|.cons_cons _<|.cons_cons _<|.cons_cons _<|.cons_cons _<|.cons_cons _<|.cons _<|.cons _<|List.nil_sublist _,?_⟩;refine E4 O 6 (l:=[J<|(x.f:Nat)]) (cs':=#[J<|(x.f:Nat)]) hF sizeOf3 O (v:=J<|(x.f:Nat)) O O (by simp[one]) O (Nat.le_of_ble_eq_true O) O ?_;rintro w hF -;have hF:FR w0 [] ([(b5,.cells #[J x.k,J<|(x.f:Nat),J<|(x.t:Nat)] 140),(l,RC .busy),(D,.deferred<|some []),(ba,.cells #[I s] 9),(b4,.cells #[.slice A (aL pre) c] 131),(b3,.cells #[J 0] 25),(b2,.cells #[J<|(x.f:Nat)] 3),(b1,.cells #[aQ] 131)]++(ex++(sb++[]))) w:=hF;refine⟨hF.sub<|.cons_cons _<|.cons_cons _<|.cons_cons _<|.cons_cons _<|.cons_cons _<|.cons_cons _<|.cons _<|.cons _<|List.nil_sublist _,?_⟩;refine BG O 5 (l:=[J er]) (cs':=#[J er]) hF sizeOf25 O (v:=J er) O O (by simp[one]) O (Nat.le_of_ble_eq_true O) O ?_;rintro w hF -;have hF:FR w0 [] ([(b5,.cells #[J x.k,J<|(x.f:Nat),J<|(x.t:Nat)] 140),(l,RC .busy),(D,.deferred<|some []),(ba,.cells #[I s] 9),(b4,.cells #[.slice A (aL pre) c] 131),(b3,.cells #[J er] 25),(b2,.cells #[J<|(x.f:Nat)] 3),(b1,.cells #[aQ] 131)]++(ex++(sb++[]))) w:=hF
   refine d_nil<|Vh ?_;refine ZT hRC hRJ (hF.heap (i:=1) O) ?_;have hF:FR w0 [] ([(l,RJ .done),(D,.deferred<|some []),(ba,.cells #[I s] 9),(b4,.cells #[.slice A (aL pre) c] 131),(b3,.cells #[J er] 25),(b2,.cells #[J<|(x.f:Nat)] 3),(b1,.cells #[aQ] 131)]++(ex++(sb++[]))) _:=(FR.put hF 1 (RJ .done) rfl).drop 1;refine⟨by rw[fZ hc0],_,?_,hF.perm<|bperm_ ex _ _⟩;rw[tQ hc0];exact⟨A,_,c,sb,rfl⟩
  refine Gw<|Vh<|Be<|RW (yll isAgg131 hF.F 4)<|RW (ylg isAgg140 sizeOf140 hF.F 0) ?_;refine Wr (v:=λb=>W b 1 1) hF (Md (cs:=#[J x.k,J<|(x.f:Nat),J<|(x.t:Nat)]) underlying131 sizeOf140 zeroValue140 Ja Ja Ua) ?_;rintro b6 w hb6 hF -;refine Vk ([(b6,.cells #[J x.k,J<|(x.f:Nat),J<|(x.t:Nat)] 140),(b5,.cells #[J x.k,J<|(x.f:Nat),J<|(x.t:Nat)] 140),(l,RC .busy),(D,.deferred<|some []),(ba,.cells #[I s] 9),(b4,.cells #[.slice A (aL pre) c] 131),(b3,.cells #[J 0] 25),(b2,.cells #[J 0] 3),(b1,.cells #[aQ] 131)]++ex) [] (news:=[J x.k,J<|(x.f:Nat),J<|(x.t:Nat)]) (len':=aL (pre++[x])) (ys:=tkCs<|pre++[x]) el_131 hF hS O O (O) (λ_=>⟨_,O,Kc<|hF.cellsAll 0 O⟩) zB qN Da (by rw[tkCs_snoc];rfl) Aa ?_;intro A0 c0 o_0 w hS0_o hF hE hnew;refine Ye 5 (l:=[.slice (A0) (aL (pre++[x])) c0]) (cs':=#[.slice (A0) (aL (pre++[x])) c0]) hF sizeOf131 O (v:=.slice (A0) (aL (pre++[x])) c0) O O (by simp[one]) O (Nat.le_of_ble_eq_true O) O ?_;rintro w hF -;have hF:FR w0 [] ([(b6,.cells #[J x.k,J<|(x.f:Nat),J<|(x.t:Nat)] 140),(b5,.cells #[J x.k,J<|(x.f:Nat),J<|(x.t:Nat)] 140),(l,RC .busy),(D,.deferred<|some []),(ba,.cells #[I s] 9),(b4,.cells #[.slice (A0) (aL (pre++[x])) c0] 131),(b3,.cells #[J 0] 25),(b2,.cells #[J 0] 3),(b1,.cells #[aQ] 131)]++(ex++(o_0++[]))) w:=hF;refine Fk<|Dy ?_;refine LU hRC (hF.heap (i:=2) O) ?_;have hF:FR w0 [] ([(l,RC .ready),(D,.deferred<|some []),(ba,.cells #[I s] 9),(b4,.cells #[.slice (A0) (aL (pre++[x])) c0] 131),(b3,.cells #[J 0] 25),(b2,.cells #[J 0] 3),(b1,.cells #[aQ] 131)]++(ex++(o_0++[]))) _:=(FR.put hF 2 (RC .ready) rfl).drop 2;have hz:er=0:=Decidable.not_not.1 hc0;refine⟨by rw[hz];rfl,_,?_,hF.perm<|bperm_ ex _ _⟩
  rw[uQ hz];exact⟨_,_,_,hS0_o,λy hy=>(mQ.1 hy).elim (hok1 y) (λh=>by rw[pQ.1 h];exact hxk hz),rfl⟩
 rintro v w ⟨u, hSS, hF⟩;by_cases hz:(Ib s).2.2=0
 ·
  rw[uQ hz]at hSS;obtain⟨A,c,sb,hS,hok1,rfl⟩:=hSS;refine .inl ⟨hF.heap (i:=0) O,?_⟩;have hF:=FR.put hF 0 (RC .exhausted) rfl;generalize w.putObj l (RC .exhausted)=w at hF ⊢;have hF:FR w0 [] ([(l,RC .exhausted),(D,.deferred<|some []),(ba,.cells #[I s] 9),(b4,.cells #[.slice (A) (aL (Ib s).1) c] 131),(b3,.cells #[J 0] 25),(b2,.cells #[J 0] 3),(b1,.cells #[aQ] 131)]++(sb++[])) w:=aS hF
  refine Dy<|Vh<|Wi<|Be<|RW (yll isAgg131 hF.F 3)<|Zb (yms O)<|Zb (ylx jX O) ?_;refine GZ (.slice _ _ _) hF sizeOf131 O O sI6.app sI0 ?_;rintro w hF -;refine GZ (.int _ _) hF sizeOf3 O O sI5.app sI0 ?_;rintro w hF -;refine GZ (.int _ _) hF sizeOf25 O O sI4.app sI0 ?_;rintro w hF -;refine Fk<|Vh ?_;have hF9:=FR.put hF 1 (.deferred none) rfl;refine Rf<|Yd<|IB (hF.heap (i:=1) O) (res_3c O O O O isAgg131 pZ isAgg25 (hF9.cell 6 O O) (hF9.cell 5 O O)<|hF9.cell 4 O O) ?_;rw[hz,toks_at hz];refine⟨A,c,O,?_,hok1,hF9.same⟩;exact SlB.rep (pre:=[(l,RC .exhausted),(D,.deferred none),(ba,.cells #[I s] 9),(b4,.cells #[.slice (A) (aL (Ib s).1) c] 131),(b3,.cells #[J 0] 25),(b2,.cells #[J<|(aL ((s):Str):Int)] 3),(b1,.cells #[.slice (A) (aL (Ib s).1) c] 131)]) (post:=[]) hS hF9 (RX.plain (ids:=[]) λS=>tk_reps _ hok1) Da
 rw[tQ hz]at hSS;obtain⟨A,nn,c,sb,rfl⟩:=hSS;refine .inr ⟨hF.heap (i:=0) O,?_⟩;have hF:=FR.put hF 0 (RJ .exhausted) rfl;generalize w.putObj l (RJ .exhausted)=w at hF ⊢;have hF:FR w0 [] ([(l,RJ .exhausted),(D,.deferred<|some []),(ba,.cells #[I s] 9),(b4,.cells #[.slice A nn c] 131),(b3,.cells #[J<|(Ib s).2.2] 25),(b2,.cells #[J<|((Ib s).2.1:Nat)] 3),(b1,.cells #[aQ] 131)]++(sb++[])) w:=aS hF
 have hF9:=FR.put hF 1 (.deferred none) rfl;refine Yd<|IB (hF.heap (i:=1) O) (res_3c O O O O isAgg131 pZ isAgg25 (hF9.cell 6 O O) (hF9.cell 5 O O)<|hF9.cell 4 O O) ?_;have h1:=toks_nil hz;rw[h1];exact⟨none,0,rfl,Rep.nil_slice 0 Aa none,λy hy=>(by cases hy),hF9.same⟩
end Go.Scarf.Fn
namespace Go.Scarf
open List renaming length->aL
variable {r:Int}
set_option synthInstance.maxHeartbeats 0
set_option synthInstance.maxSize 9999
open Go.RowKit Go.Proofs Go.Proofs.Tryz
section
variable {P:Program}{R:Exit->Act->World->Prop}{n:Nat}{k:Kt}{s:Nat->Value}{w:World}
def AS{c:Code}(h:Cg P (Exit.noGoto (k.post P R)) n c .done s w):Cg P R n (.scope c) k s w:=by
  unfold Cg at *;exact wp_scope_straight h
def Tz(h:Eg P R n .ret k s w):(Exit.noGoto (k.post P R)) .ret (Bi n s) w:=by
  unfold Eg at h;exact h
end
def L6{P:Program}{w:World}{ρ:Operand->Value}{dst:Option Nat}{ty:TypeId}{pos:String}{aft:Array Edge}{g:Option (Nat × Bool)}{t t':Nat}{x:Operand}{k:IntKind}{d:TypeDesc}{e:Str}(ht:P.underlying t=some d)(ht':P.underlying t'=some .string)(hx:ρ x=.int k r)(he:Utf8.encode r=bs e) :
    (execOp ρ ⟨dst,.convert t t' x,ty,pos,aft,g⟩).run P w=.ok (.value (I e)) w:=by
  have h:=run_convert_int_string (P:=P) w t t' k r (by rw[ht];rfl) ht';rw[he]at h;simp[execOp,hx,h]
def NG(r:Int)(w:World):Calls prog 308 #[.int .i32 r] w (Za λv w'=>v=.bool (Lib.validRune r)/\Same [] w w'):=Ji (utf8_ValidRune r w)
def dec3{q:Nat}(h:q<aL ([43,45,95]:Str)):(Utf8.decode (bs ([43,45,95]:Str)) q).1<128/\(Utf8.decode (bs ([43,45,95]:Str)) q).2=1:=by
  have h3:q<3:=h;rcases (by omega:q=0\/q=1\/q=2)with rfl|rfl|rfl <;> decide +kernel
def byte3:∀q (h:q<aL ([43,45,95]:Str)),(([43,45,95]:Str)[q]' h).toNat<128:=Ja
def enc_bs(h:128<=r)(hv:Lib.validRune r=true):∃e:Str,Utf8.encode r=bs e/\1<=e.length/\e.length<=4/\∀h:e.length-1<e.length,128<=(e[e.length-1]' h).toNat:=by
  by_cases hu:Utf8.valid r=true
  ·obtain⟨h1, h2, h3⟩ := encode_facts r hu h
   exact⟨(Utf8.encode r).data.toList,by cases Utf8.encode r;rfl,by show 1<=(Utf8.encode r).size;omega,h2,λhh=>h3 hh⟩
  have e:Utf8.encode r=Utf8.encode 65533:=by
    unfold Utf8.encode;rw[tQ hu];rfl
  rw[e];exact⟨[239,191,189],by decide +kernel,Ja,Ja,Ja⟩
def low_byte{s:Str}{p:Nat}(h:p<aL s)(hd:(Utf8.decode (bs s) p).1<128):s[p].toNat=(Utf8.decode (bs s) p).1:=by
  have hs:p<(bs s).size:=h;by_cases ha:(s[p]).toNat<128
  ·have hd := decode_ascii (bs s) p hs ha
   rw[hd];rfl
  have := decode_high (bs s) p hs (by show 128 <= (s[p]).toNat;omega);omega
def in3:∀r<128,0<=Lib.indexByte ([43,45,95]:Str) (UInt8.ofNat r)->r=43\/r=45\/r=95:=by decide +kernel
def ZO:∀c:Nat,(c=43\/c=45\/c=95)->Qd (UInt8.ofNat c)=false:=by rintro c (rfl|rfl|rfl) <;> decide
def none3{c:UInt8}(hc:128<=c.toNat)(k:Nat):Lib.indexByte (([43,45,95]:Str).drop k) c<0:=by
  by_cases h:Lib.indexByte (([43,45,95]:Str).drop k) c<0
  ·exact h
  have hm := Oq (Int.not_lt.1 h);rw[List.contains_iff_mem]at hm;have hm:=List.mem_of_mem_drop hm;simp only[oQ,List.not_mem_nil,or_false]at hm;rcases hm with rfl|rfl|rfl <;> simp at hc
theorem JD(r:Int)(h128:128<=r)(w0:World):Calls prog 288 #[I [43,45,95],.int .i32 r] w0 (Za λv w'=>v=J (-1)/\Same [] w0 w'):=by
 refine Yl func288 O ntmps288 Bf (YK _ _) ?_;have hF:=FR.start w0 [];refine rn 9<|Ba (v:=.bool true) (Ud (VR O O) Aa) ?_;refine rn 2<|Ba (v:=.bool false) (Cc Uy Aa) ?_;refine rn 13 ⟨λhc1=>?_,λhc1=>?_⟩;refine rn 4<|Zp (str:=[43,45,95]) hF jX O ?_;rintro b1 w hb1 hF -;refine rn 3<|Sa (λμ σ w=>∃(q:Nat),μ=3-q/\(q<=3)/\AllEq σ [(175,V b1)]/\FR w0 [] [(b1,.stringIter (bs [43,45,95]) q)] w) _ ⟨0,O,Aa,Va,hF⟩ ?_;rintro μ σ w ⟨q,rfl,hq,hzz,hF⟩;refine Wf hzz 2 ?_;by_cases hn0:(q)<aL ([43,45,95]:Str);refine Au 0 (p:=q) (str:=[43,45,95]) hF O O hn0 ?_;rintro w hF -;refine rn 19 ?_;refine Ba (v:=.bool false) (Cc El (by have:=dec3 qW;omega)) ?_;refine rn 5 ?_;refine Ha ⟨_,?_,q+(Utf8.decode (bs [43,45,95]) q).2,O,(by have:=dec3 qW;have h3:q<3:=qW;omega),Va,hF⟩;have:=dec3 qW;have h3:q<3:=qW;omega;refine Ol 0 (p:=q) (str:=[43,45,95]) hF O O hn0<|rn 12 ?_;refine rt1 (v:=J<|(-1)) ?_;exact⟨O,hF.same⟩;refine rn 3<|Ia (NG r _) ?_;rintro w hF -;refine rn 5 ⟨λhc4=>?_,λhc4=>?_⟩;refine rn 5<|rt1 (v:=J<|(-1)) ?_;exact⟨O,hF.same⟩;refine AS<|rn 1 ?_;obtain⟨e,he,he1,he4,heh⟩:=enc_bs (r:=r) Aa qX;refine rn 2<|Ba (v:=I e) (L6 bX jX O he) ?_;refine rn 7<|Zb (AB<|((e.length-1:Nat):Int)) ?_;refine rn 16<|Sa (λμ σ w=>μ=0/\AllEq σ [(0,I [43,45,95]),(7,I e),(8,J<|((e.length-1:Nat):Int)),(9,J<|((e.length-1:Nat):Int))]/\FR w0 [] [] w) _ ⟨O,Va,hF⟩ ?_;rintro μ σ w ⟨rfl,hzz,hF⟩;have h3l:(aL ([43,45,95]:Str):Int)=3:=rfl;refine Wf hzz 10 ⟨λhc5=>?_,λhc5=>?_⟩;refine rn 3<|AS ?_;refine rn 2<|Rb (zs:=.of []) (bQ [0,1,2,3,4,5,6] .nil) hF ?_;intro w hF;refine rn 2 ?_;refine Ga rfl (v:=.int .u8<|((([43,45,95]:Str)[e.length-1]'(by first|assumption|(show e.length-1<3;omega))).toNat:Int)) (λw hC=>Cb (e.length-1) jX rfl rfl (by first|assumption|(show e.length-1<3;omega))) ?_
 refine rn 2<|Ga O (v:=.int .u8<|(((e:Str)[e.length-1]' Aa).toNat:Int)) (λw hC=>Cb (e.length-1) jX O O Aa) ?_;refine Ga O (v:=.bool true) (λw hC=>Ud (AR O O) (by have h1:=byte3 (e.length-1) (by show e.length-1<3;omega);have h2:=heh Aa;omega)) ?_;refine rn 4<|Rb (zs:=.of []) (bQ [0,1,2,3,4,5,6]<|.act 7<|.free 8 .nil) hF ?_;intro w hF;refine rn 2<|CB O (Wd<|((e.length-1+1:Nat):Int)) ?_;refine Ga O (v:=I<|([43,45,95]:Str).drop (e.length-1+1)) (λw hC=>Qf (e.length-1+1) jX (h1:=by show e.length-1+1<=3;omega)) ?_;refine rn 2<|Ga O (v:=.int .u8<|(((e:Str)[e.length-1]' Aa).toNat:Int)) (λw hC=>Cb (e.length-1) jX O O Aa) ?_;refine Rc (Hm (([43,45,95]:Str).drop (e.length-1+1))<|e[e.length-1]'_) ?_;rintro w hF -;refine rn 7<|Ba (v:=.bool true) (Ud Uy<|none3 (heh Aa) _) ?_;refine rn 8<|Rf<|Yd<|Tz<|Yd<|Tz<|Yd<|Nc (JP (v:=J<|(-1)) O O) ?_;exact⟨O,hF.same⟩;refine rn 8<|Rf<|Yd<|Tz<|Yd<|Nc (JP (v:=J<|(-1)) O O) ?_;exact⟨O,hF.same⟩
def H9(r:Nat)(w0:World):Calls prog 288 #[I [43,45,95],.int .i32 (r:Int)] w0 (Za λv w'=>∃i:Int,v=J i/\(0<=i->r=43\/r=45\/r=95)/\Same [] w0 w'):=by
  by_cases h:r<128
  ·refine (Ji<|strings_IndexRune_ascii (bs [43, 45, 95]) (r : Int) w0 Aa Aa).mono λe w' he => ?_
   obtain⟨v,e1,rfl,hs⟩:=he;exact⟨_,e1,_,O,λhi=>in3 r h hi,hs⟩
  refine (JD (r : Int) Aa w0).mono λe w' he => ?_;obtain⟨v,e1,rfl,hs⟩:=he;exact⟨_,e1,_,O,λhi=>by omega,hs⟩
def QM(m:Nat)(w0:World):Calls prog 332 #[J (m:Int)] w0 (Za λv w'=>v=.bool (decide ((8:Int)<(m:Int)))/\Same [] w0 w'):=by
  refine Ea func332 ntmps332 ?_;intro hF;refine rn 13 ?_;exact⟨O,hF.same⟩
def UJ(s:Str)(hs:aL s<=8)(w0:World):Calls prog 331 #[I s,I [43,45,95]] w0 (Za λv w'=>∃i:Int,v=J i/\(0<=i->∃c∈s,Qd c=false)/\Same [] w0 w'):=by
 refine Ea func331 ntmps331 ?_;intro hF;refine rn 9<|Ba (v:=.bool false) (Cc (Bw O O) Ja) ?_;refine rn 10<|Ba (v:=.bool false) (Cc El Ja) ?_;refine rn 10<|Ia (QM (aL s) _) ?_;rintro w hF -;refine rn 3 ⟨λhc3=>?_,λhc3=>?_⟩;exact absurd hc3 Aa;refine rn 6<|Zp (str:=s) hF jX O ?_;rintro b1 w hb1 hF -;refine rn 3<|Sa (λμ σ w=>∃(q:Nat),μ=aL s-q/\(q<=aL s)/\AllEq σ [(1,I [43,45,95]),(45,V b1)]/\FR w0 [] [(b1,.stringIter (bs s) q)] w) _ ⟨0,O,Aa,Va,hF⟩ ?_;rintro μ σ w ⟨q,rfl,hq,hzz,hF⟩;refine Wf hzz 2 ?_;by_cases hn0:(q)<aL (s:Str);refine Au 0 (p:=q) (str:=s) hF O O hn0 ?_;rintro w hF -;refine rn 20<|Fc (H9 (Utf8.decode (bs s) q).1 _) ?_;rintro _ w ⟨i,rfl,hi,hE⟩;have hF:=hF.ext hE;refine rn 4 ⟨λhc8=>?_,λhc8=>?_⟩;refine rn 7 ?_;have h3:=hi Aa;have hb:=low_byte (s:=s) (p:=q) Aa Aa;refine⟨_,O,λ_=>⟨s[q],eQ Aa,?_⟩,hF.same⟩;have h4:=ZO _ h3;rw[<-hb]at h4;simpa using h4;refine rn 2<|Ha ⟨_,?_,q+(Utf8.decode (bs s) q).2,O,Bk s q,Va,hF⟩;have:=Pd s q;have:=Bk s q;omega;refine Ol 0 (p:=q) (str:=s) hF O O hn0<|rn 13 ?_;exact⟨_,O,λh=>absurd h Ja,hF.same⟩
def C7(s:Str)(hs:aL s<=8)(w0:World):Calls prog 329 #[I s,I [43,45,95]] w0 (Za λv w'=>∃b:Bool,v=.bool b/\(b=true->∃c∈s,Qd c=false)/\Same [] w0 w'):=by
 refine Ea func329 ntmps329 ?_;intro hF;refine rn 9<|Fc (UJ s hs _) ?_;rintro _ w ⟨i,rfl,hi,hE⟩;have hF:=hF.ext hE;refine rn 5 ?_;exact⟨_,O,λh=>hi<|mZ h,hF.same⟩
end Go.Scarf
