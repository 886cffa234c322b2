/- A part of the proof. -/
import Derived.Test.YteedfdfinodcaaaGreatDoorM18
import Derived.Sort.OwnSorted
import Derived.Laws.CopyRow
import Derived.Lib.AppendZerosOnto
import Derived.Test.YteedfdfinodcaaaGreatDoorM15
set_option linter.all false
set_option maxHeartbeats 8000000
set_option maxRecDepth 10000
namespace Go.Scarf
open List renaming length->aL
open Go.RowKit Go.Proofs Go.Proofs.Tryz
def NZ(A:Option Addr)(n c:Nat)(w0:World):Calls prog 138 #[.slice A n c] w0 (Qb λv w'=>∃b:Nat,v=.func (.func 173) #[] #[V b]/\w'.heap[b]? = some (.cells #[.slice A n c] 22)/\w0.heap.size<=b/\Same [] w0 w'):=by
 refine Bp func138 O ntmps138 Pt (UE _) ?_;have hF:=FR.start w0 [];refine n_cr<|o_bx (.slice _ _ _) hF O ?_;rintro b1 w hb1 hF -;refine Tc (yau)<|n_nc<|Da (v:=.func (.func 173) #[] #[V b1]) Te<|Tc (yau)<|n_ns ?_;refine rt1 (v:=.func (.func 173) #[] #[V b1]) O O ?_;exact⟨b1,O,hF.heap (i:=0) O,hF.ge (i:=0) O,hF.same⟩
end Go.Scarf
namespace Go.Scarf.Fn
open List renaming length->aL
open Go.Scarf Go.RowKit Go.Proofs Go.Proofs.Tryz
section
variable {P:Program}{w:World}{ty:TypeId}{pos:String}{aft:Array Edge}{g:Option (Nat × Bool)}{ρ:Operand->Value}{dst:Option Nat}
def x_yield1{l:Nat}{x x1:Operand}{ats:Array TypeId}{v1:Value}{fn:FuncId}{tmps:Array Value}{as_ body:Code}(hx:ρ x=.func (.yield l) #[] #[])(h1:ρ x1=v1)(hy:(Instr.yield l #[v1]).run P w=.ok (.round l fn tmps as_ body) w) :
    (execOp ρ ⟨dst,.call ⟨.value x,#[x1],ats⟩,ty,pos,aft,g⟩).run P w=.ok (.round l fn tmps as_ body) w:=by simp[execOp,resolve,Deferred.ofValue,hx,h1,invoke,hy]
end
def tmps_set(n:Nat)(s:Nat->Value)(d:Nat)(v:Value):(Y0 n s []).tmps.setIfInBounds d v=(Y0 n (Lc s d v) []).tmps:=by
  have:=Tu n s [] (some d) v;exact xQ Act.tmps this
section
variable {r:Option Nat}{m:Nat}{ds:List Deferred}{P:Program}{R:Exit->Act->World->Prop}{n:Nat}{k:Kt}{s:Nat->Value}{w w0:World}{Ds:List Nat}{bs_:List (Nat × Obj)}{fn l D:Nat}{ps:Array Tmp}{as_ body:Code}{Rd:Ending->World->Prop}{RC:LoopState->Obj}{s1 s0:Nat->Value}
theorem IY{g:Operand}{gf:FuncId}{lb:Array Value}(hF:FR w0 Ds bs_ w)(hg:ev n s g=.func (.func gf) #[] lb)(eg:Ia P gf)
    (h:∀fn D l w' RC,RC=Xu fn n s ps as_ body D->FR w0 Ds ((l,RC .ready)::(D,.deferred (some []))::bs_) w'->Same [] w w' ->
      Calls P gf (#[.func (.yield l) #[] #[]]++lb) w' (Qb λ_ w3=>∃st,st≠.busy/\w3.heap[l]? = some (RC st)/\Eg none m (mark D) P R n .normal k s (w3.putObj l (RC .exhausted)))) (hk:TJ k=true:=by rfl) :
    Cg none m [] P R n (.rangeFunc g ps as_ body) k s w:=by grind [c_range]
def foldl1(n:Nat)(s:Nat->Value)(a:Tmp)(x:Value):((#[a]:Array Tmp).zip #[x]).foldl (λtmps (x:Tmp × Value)=>tmps.setIfInBounds x.1 x.2) (Y0 n s []).tmps=(Y0 n (Lc s a x) []).tmps:=by
  rw[<-tmps_set];simp
def y_round1{a:Tmp}{x:Value}(hRC:RC=Xu fn n s #[a] as_ body D)(hl:w.heap[l]? = some (RC .ready))
    (h:Cg (some l) m [] P (Exit.then (λa1 w1=>∃w2,(Instr.beginRound l).run P w1=.ok () w2/\body.wpIn (Fw (some l)) m P (roundPost P l Rd) a1 w2) (λ_ _ _=>False)) n as_ .done (Lc s a x) w):YieldAt (Fw none) m P l #[x] w Rd:=y_round (hRC▸hl) rfl (foldl1 n s a x) h
def as_endR(hRC:RC=Xu fn n s0 ps as_ body D)(hl:w.heap[l]? = some (RC .ready))(h:Cg (some l) m [] P (roundPost P l Rd) n body .done s1 (w.putObj l (RC .busy))) :
    Eg (some l) m [] P (Exit.then (λa1 w1=>∃w2,(Instr.beginRound l).run P w1=.ok () w2/\body.wpIn (Fw (some l)) m P (roundPost P l Rd) a1 w2) (λ_ _ _=>False)) n .normal .done s1 w:=by
  subst hRC;exact as_end hl h
theorem ZV(hRC:RC=Xu fn n s0 ps as_ body D)(hl:w.heap[l]? = some (RC .busy))(h:Rd (.returned (.bool true)) (w.putObj l (RC .ready))) :
    Eg (some l) m [] P (roundPost P l Rd) n .normal .done s1 w:=by
  subst hRC;grind [body_end]
end
set_option maxHeartbeats 4000000 in
set_option maxRecDepth 10000 in
theorem RT(xs:List Str)(A:Option Addr)(c:Nat)(S:Nat->Prop)(w0:World)(hX:Rep S w0 (Wa xs) [.slice A (aL xs) c])(l Bn:Nat)(hb:w0.heap[Bn]? = some (.cells #[.slice A (aL xs) c] 22))(SU:List Str->List (Nat × Obj)->Prop)(hY:∀pre u w x,aL pre<aL xs->SU pre u->FR w0 [] u w->YieldAt (Fw none) 2 prog l #[I x] w (λe w'=>e=.returned (.bool true)/\∃u',SU (pre++[x]) u'/\FR w0 [] u' w'))(u:List (Nat × Obj))(hSU:SU [] u)(w:World)(hF0:FR w0 [] u w):Calls prog 173 #[.func (.yield l) #[] #[],V Bn] w (Qb λv w'=>∃u,SU xs u/\FR w0 [] u w'):=by
 have hXl:=hX.slice_len;simp only[rQ]at hXl;refine TF (m:=3) func173 O ntmps173 (Nat.le_of_ble_eq_true O) (YM _ _) ?_;have hF:FR w0 [] ([]++(u++[])) w:=qJ
 refine Lp<|Uf ?_;refine Da (v:=.slice A (aL xs) c) (Ma mZ (hx:=O) (by rw[Ra ((hF.same.block Bn (Ga hb) Ca).trans hb) 0];rfl)) ?_;refine Tc (yln wZ O)<|Tc (ymi O)<|Qp<|Zn<|Lu ?_;refine Za (λμ σ w=>∃(j:Nat),∃(u:List (Nat × Obj)),μ=aL xs-j/\(j<=aL xs)/\(SU (xs.take j) u)/\AllEq σ [(0,.func (.yield l) #[] #[]),(5,.slice A (aL xs) c),(6,.int .i64<|(aL xs:Nat)),(7,.int .i64<|(j:Int))]/\FR w0 [] ([]++(u++[])) w) _ ⟨0,u,O,bZ _,hSU,⟨O,O,O,O,trivial⟩,hF⟩ ?_;clear hF;rintro μ σ w ⟨j,u,rfl,hj,hSU,hzq,hF⟩;refine Cg.slots hzq ?_;clear hzq;intro σ;refine Lp<|Uf<|Tc (ylt O O)<|Qp<|Zn<|Lp ?_;refine c_sd O O (λhc0=>?_) λhc0=>?_;refine X6<|Zn<|Lp<|Lu<|Lp<|Uf ?_;obtain⟨ad0,hA0,hk0,hx0⟩:=hX.str_elem (i:=j) by_Om;refine Da (v:=.pointer<|some<|ad0.add<|j*1) (Ea (i:=(j:Int)) Hd hA0 (h0:=by omega) (h1:=by omega))<|Da (v:=I<|xs[j]) (Ma qZ<|hF.cell0 hk0)<|Tc (yas O)<|Qp<|Zn<|Lp<|Uf<|Tc (ymu)<|Tc (yms O) ?_;have hyy:=hY (xs.take j) u w xs[j] (by rw[gZ];omega) hSU (aS hF);refine o_yield hyy (λhy=>x_yield1 O O hy) ?_;clear hF hyy;rintro e w ⟨rfl,u2,hSU2,hF⟩;refine⟨.bool true,O,?_⟩;have hF:FR w0 [] ([]++(u2++[])) w:=aS hF
 refine Tc (ynb (b:=true) O)<|Qp<|Zn ?_;refine W2 (by rfl)<|X6<|My<|Zn<|Uf<|Tc (Le<|((j+1:Nat):Int))<|Tc (ymi O)<|Qp ?_;refine Va ⟨_,?_,j+1,u2,O,by_Om,by rw[iQ by_Om];exact hSU2,⟨O,O,O,O,trivial⟩,hF⟩;omega;refine UN<|Nr O ?_;refine NN<|MJ (res_0 O) ?_;obtain rfl:j=aL xs:=by_Om
 rw[List.take_length]at hSU;exact⟨u,hSU,by simpa using hF⟩
set_option maxHeartbeats 4000000 in
set_option maxRecDepth 10000 in
def appendSeq_c(xs:List Str)(A:Option Addr)(c:Nat)(S:Nat->Prop)(w0:World)(hX:Rep S w0 (Wa xs) [.slice A (aL xs) c])(Bn:Nat)(hb:w0.heap[Bn]? = some (.cells #[.slice A (aL xs) c] 22))(hl:aL xs<=1000000):Calls prog 202 #[aQ,.func (.func 173) #[] #[V Bn]] w0 (Qb λv w'=>∃A2 c2 sb,v=.slice A2 (aL xs) c2/\SlB 9 1 A2 (aL xs) c2 (xs.map strV) sb/\FR w0 [] sb w'):=by
 have hXl:=hX.slice_len;simp only[rQ]at hXl;refine NF (m:=3) func202 O ntmps202 (Nat.le_of_ble_eq_true O) (YM _ _) ?_;have hF:=FR.start w0 [];refine Lp<|Uf ?_;refine o_bx (.slice _ _ _) hF O ?_;clear hF;intro b1 w hb1 hF hE;refine Tc yal<|Qp<|Zn<|Lp<|Lp<|Uf<|Tc (ymu)<|Qp<|Zn<|Lu ?_;refine IY hF O en_173 ?_;clear hF;intro fn D l w RC hRC hF hE;refine Zi (RT xs A c S w0 hX l Bn hb (λpre u=>∃A2 c2 sb,SlB 9 1 A2 (aL pre) c2 (pre.map strV) sb/\u=(l,RC .ready)::(D,.deferred<|some [])::(b1,.cells #[.slice A2 (aL pre) c2] 22)::sb) ?_ _ ⟨none,0,[],SlB.nil _ _,O⟩ w hF) ?_;rintro pre u w x hpl ⟨A2,c2,sb,hS,rfl⟩ hF;have hl1:w.heap[l]? = some (RC .ready):=hF.heap (i:=0) rfl;refine y_round1 hRC hl1 ?_;have hF:FR w0 [] ([(l,RC .ready),(D,.deferred<|some []),(b1,.cells #[.slice A2 (aL pre) c2] 22)]++(sb++[])) w:=aS hF
 refine Cg.slots (l:=[(2,V b1),(7,I x)]) ⟨O,O,trivial⟩ ?_;clear hl1;intro σ;refine Uf<|Tc (yas O)<|Qp ?_;refine as_endR hRC (hF.heap (i:=0) O) ?_;have hF:=FR.put hF 0 (RC .busy) rfl;generalize w.putObj l (RC .busy)=w at hF ⊢;have hF:FR w0 [] ([(l,RC .busy),(D,.deferred<|some []),(b1,.cells #[.slice A2 (aL pre) c2] 22)]++(sb++[])) w:=hF;refine Lu<|Uf<|o_Y (yll mZ O hF.F 2 O O)<|Tc (yms O) ?_;refine Tj (v:=λb=>W b 1 1) hF (Kd (cs:=#[I x]) wZ sizeOf9 zeroValue9 Pa Pa Ib) ?_;clear hF;intro b2 w hb2 hF hE;refine RQ (news:=[I x]) (len':=aL (pre++[x])) (ys:=(pre++[x]).map strV) X_ hF hS O O (O) (λ_=>⟨_,O,Ce<|hF.cellsAll 0 O⟩) jH qR Ca (by simp[strV]) by_Om ?_;clear hF;intro A0 c0 o_0 w hS0_o hF hE hnew;refine o_st (.slice _ _ _) hF sizeOf22 O O sI3.app sI0 ?_;clear hF;intro w hF hE;refine Qp<|My ?_;refine ZV hRC (hF.heap (i:=1) O) ?_;have hF:=(FR.put hF 1 (RC .ready) rfl).drop 1;exact⟨O,_,⟨_,_,_,hS0_o,O⟩,by simpa using hF⟩;rintro v w ⟨u,⟨A2,c2,sb,hS,rfl⟩,hF⟩;refine⟨.ready,Ca,hF.heap (i:=0) O,?_⟩;have hF:=FR.put hF 0 (RC .exhausted) rfl;generalize w.putObj l (RC .exhausted)=w at hF ⊢;have hF:FR w0 [] ([(l,RC .exhausted),(D,.deferred<|some []),(b1,.cells #[.slice A2 (aL xs) c2] 22)]++(sb++[])) w:=aS hF
 refine My<|Zn<|Lp<|Uf<|o_Y (yll mZ O hF.F 2 O O)<|Tc yal<|Qp<|Zn ?_;have hF9:=(FR.put hF 1 (.deferred none) rfl).drop 3;refine Bo<|Ej<|AV (hF.heap (i:=1) O) (res_1 O O) ?_;exact⟨_,_,_,O,hS,by simpa using hF9⟩
end Go.Scarf.Fn
namespace Go.Scarf
open List renaming length->aL
open Go.RowKit Go.Proofs Go.Proofs.Tryz
variable {W0:World}{N sb:List (Nat × Obj)}{A:Option Addr}{U xs zs:List Str}{o:Option (List Str)}{cs cur:List Value}{T:TypeId}{C:World->Prop}{order:Ord}{K bc e ii m sz t:Nat}{x y z:Operand}{q:Str->Bool}{k1 k2:IntKind}{lo:MapL}{ac:List (Str × Tree)}{rl:List Rl}{v:Tree}
theorem FR.join{w w':World}{L:List (Nat × Obj)}(hF:FR W0 [] L w)(hM:FR w [] N w'):FR W0 [] (N++L) w':=by
  have hlt:∀q∈L,q.1<w.heap.size:=λq hq=>Ga (hF.own q hq).1;have hge:∀q∈N,w.heap.size<=q.1:=λq hq=>(hM.own q hq).2.resolve_right Ca;refine⟨hF.same.trans hM.same,λq hq=>?_,?_⟩
  ·rcases mQ.1 hq with h|h
   ·exact⟨(hM.own q h).1,.inl<|fQ hF.same.size<|hge q h⟩
   have h1 := hF.own q h;exact⟨(hM.same.block q.1 (hlt q h) Ca).trans h1.1,h1.2⟩
  rw[List.pairwise_append];exact⟨hM.desc,hF.desc,λp hp q hq=>by have:=hge p hp;have:=hlt q hq;omega⟩
theorem sortOwnS{w0 w:World}{pre post:List (Nat × Obj)}{n c:Nat}(hn0:n=aL zs)(hS:SlB 9 1 A n c (zs.map strV) sb)(hF:FR w0 [] (pre++(sb++post)) w)(hl:n<=1000000) :
    Calls prog 172 #[.slice A n c] w (Qb λv w'=>v=.tuple #[]/\∃sb',SlB 9 1 A n c ((We zs).map strV) sb'/\FR w0 [] (pre++(sb'++post)) w'):=by
  subst hn0;rcases hS.2 with ⟨hn,hc,rfl⟩|⟨g,cur,rfl,rfl,h1,h2,h3,h4⟩
  ·obtain rfl : zs = [] := List.eq_nil_of_length_eq_zero hn
   refine (slices_Sort_string_none A c w).mono ?_;rintro e w' ⟨rfl,rfl⟩;have e:We ([]:List Str)=[]:=by grind [Jd]
   exact⟨_,O,O,[],by rw[e];exact hS,hF⟩
  have hb := hF.memHeap (p := (g, .cells cur 9)) Ca;rw[Nat.mul_one]at h4;refine (slices_Sort_string g 0 c zs w (holds_of_block hb h4) (Ga hb) fX).mono ?_;rintro e w' ⟨rfl,n,os,rfl⟩;have hlm:aL (zs.mergeSort λx y=>decide (x<=y))=aL zs:=qX
  have hnew:=heap_sorted (n:=n) (os:=os) (zs.mergeSort λx y=>decide (x<=y)).toArray hb;have hg:=grownBy_sorted (w:=w) (g:=g) (n:=n) (os:=os) (zs.mergeSort λx y=>decide (x<=y)).toArray;have hs:Same [g] w (Go.Sort.grow (Go.Sort.putRow Go.Proofs.encStr (Go.Sort.ahead w n) g 0 (zs.mergeSort λx y=>decide (x<=y)).toArray) os):=⟨hg.os,hg.tape,hg.output,hg.size,λb hb hn=>hg.block b hb λe=>hn (by simp at e;simp[e])⟩;refine⟨_,O,O,_,?_,hF.changeMid hs hnew⟩;refine⟨by simp[Jd],.inr ⟨g,_,O,O,h1,h2,by simp[Go.Sort.putCells,h3],?_⟩⟩;rw[Nat.mul_one,<-hlm];exact take_putCells cur _ (by rw[hlm];omega)
def WT(xs:List Str)(A:Option Addr)(c:Nat)(S:Nat->Prop)(w0:World)(hX:Rep S w0 (Wa xs) [.slice A (aL xs) c])(Bn:Nat)(hb:w0.heap[Bn]? = some (.cells #[.slice A (aL xs) c] 22))(hl:aL xs<=1000000):Calls prog 171 #[.func (.func 173) #[] #[V Bn]] w0 (Qb λv w'=>∃A2 c2 sb,v=.slice A2 (aL xs) c2/\SlB 9 1 A2 (aL xs) c2 (xs.map strV) sb/\FR w0 [] sb w'):=by
 refine Bp func171 O ntmps171 Pt (UE _) ?_;have hF:=FR.start w0 [];refine n_cr<|Tc yal<|n_nc<|Tc (ymu) ?_;refine Ed (Fn.appendSeq_c xs A c S _ hX Bn hb hl) (Yh en_202 O O O) ?_;rintro _ w ⟨A2,c2,sb,rfl,hS,hG_⟩;have hF:=hF.join hG_;clear hG_;refine Tc yal<|n_ns ?_;refine rt1 (v:=.slice _ _ _) O O ?_;exact⟨_,_,_,O,hS,by simpa using hF⟩
def FT(xs:List Str)(A:Option Addr)(c:Nat)(S:Nat->Prop)(w0:World)(hX:Rep S w0 (Wa xs) [.slice A (aL xs) c])(Bn:Nat)(hb:w0.heap[Bn]? = some (.cells #[.slice A (aL xs) c] 22))(hl:aL xs<=1000000):Calls prog 137 #[.func (.func 173) #[] #[V Bn]] w0 (Qb λv w'=>∃A2 c2 sb,v=.slice A2 (aL (We xs)) c2/\SlB 9 1 A2 (aL (We xs)) c2 ((We xs).map strV) sb/\FR w0 [] sb w'):=by
 refine Bp func137 O ntmps137 Pt (UE _) ?_;have hF:=FR.start w0 [];refine n_cr<|Tc yal<|n_nc<|Tc (ymu) ?_;refine Ed (WT xs A c S _ hX Bn hb hl) (Ij en_171 O O) ?_;rintro _ w ⟨A2,c2,sb,rfl,hS,hG_⟩;have hF:FR w0 [] ([]++(sb++[])) w:=by simpa using hF.join hG_
 clear hG_;refine Tc yal<|n_nc<|Tc (yml O) ?_;refine Ed (sortOwnS (pre:=[]) (post:=[]) (zs:=xs) O hS hF hl) (Ij en_172 O O) ?_;rintro _ w ⟨rfl,sb2,hS2,hF⟩;refine n_nc<|Tc (yml O)<|Tc yal<|n_ns ?_;refine rt1 (v:=.slice _ _ _) O O ?_;exact⟨_,_,_,by rw[Jd],by rw[Jd];exact hS2,by simpa using hF⟩
open Go.RowKit
def Wn(z:List Value):Nat->List Value
  | 0=>[]
  | k+1=>z++Wn z k
theorem R6(z:List Value):∀k,aL (Wn z k)=k*aL z
  | 0=>by simp[Wn]
  | k+1=>by rw[Wn,dQ,R6 z k,Nat.add_mul];omega
theorem SK(z:List Value):∀(k i:Nat)(h:i<k*aL z),(Wn z k)[i]? = z[i%aL z]?
  | 0,i,h=>by omega
  | k + 1, i, h => by
    rw[Wn];by_cases hi:i<aL z
    ·rw[List.getElem?_append_left hi,Nat.mod_eq_of_lt hi]
    rw[List.getElem?_append_right fX, SK z k (i-aL z) (by rw[Nat.add_mul]at h;omega)]
    congr 1
    conv=>rhs;rw[show i=(i-aL z)+aL z from by omega,Nat.add_mod_right]
theorem ZI(z:List Value)(h:∀v∈z,v.oneCell'=true):∀k,∀v∈Wn z k,v.oneCell'=true
  | 0,v,hv=>by cases hv
  | k + 1, v, hv => by
    rw[Wn]at hv;rcases mQ.1 hv with h1|h1
    ·exact h v h1
    exact ZI z h k v h1
theorem made_rep(z:List Value)(k:Nat):madeCells z.toArray (k*aL z)=(Wn z k).toArray:=by
  apply Array.ext
  ·simp[madeCells,R6]
  intro i h1 h2;have hi:i<k*aL z:=by simpa[madeCells]using h1
  have hz:0<aL z:=qJ
  have hm:i%aL z<aL z:=Nat.mod_lt _ hz;have h3:=SK z k i hi;rw[List.getElem?_eq_getElem (by rw[R6];exact hi),List.getElem?_eq_getElem hm]at h3;have h4:=lQ h3;simp[madeCells,h4,hm]
theorem BU(z:List Value)(k:Nat):Builtin.zeroCells z.toArray k=(Wn z k).toArray:=by
  have:=made_rep z k;unfold madeCells at this;unfold Builtin.zeroCells;grind
section
variable {P:Program}{R:Exit->Act->World->Prop}{n:Nat}{kt:Kt}{s:Nat->Value}{w w0:World}{ops rest:List Oper}{Ds:List Nat}{bs_:List (Nat × Obj)}
variable {d:Nat}{ty:TypeId}{pos:String}{aft:Array Edge}{g:Option (Nat × Bool)}{ρ:Operand->Value}{dst:Option Nat}
def Dn(cur:List Value)(o:Nat)(cs:List Value):List Value:=cur.take o++(cs++cur.drop (o+aL cs))
def BG{g o:Nat}(hg:w.heap[g]? = some (.cells cur.toArray T)):(w.setRow g (Dn cur o cs).toArray).heap[g]? = some (.cells (Dn cur o cs).toArray T)/\Same [g] w (w.setRow g (Dn cur o cs).toArray) :=
  ⟨setRow_heap w g _ _ T (0,0) hg,⟨rfl,rfl,rfl,by simp[World.setRow],λb _ hb=>setRow_other w g b _ (aS hb)⟩⟩
def f_appR{zs:Lt}(hii:ops[ii]? = some ⟨some d,.call ⟨.builtin .append,#[x,y],#[t,t]⟩,ty,pos,aft,g⟩)(i:Nat){bytes b len c k c2:Nat}{a:Addr}(cs:List Value)(hE:Elems P t e m bytes)(hF:FR w0 Ds bs_ w)(hi:bs_[i]? = some (b,.cells cur.toArray e))(hx:ev n s x=W b len c)(hy:ev n s y=.slice (some a) k c2)(hn:aL cs=k*m)
    (hsrc:∀j u,cs[j]? = some u->w.cell? (a.add j)=some u) (hroom:len+k<=c) (hfit:len*m+aL cs<=aL cur) (h1:∀v∈cs,v.oneCell'=true)
    (h:∀w',FR w0 Ds (bs_.set i (b,.cells (Dn cur (len*m) cs).toArray e)) w'->Same [b] w w'->C w'/\Dg P R n ops kt zs order C (Lc s d (W b (len+k) c)) w')
    (hw:Ka ops n s ⟨some d,.call ⟨.builtin .append,#[x,y],#[t,t]⟩,ty,pos,aft,g⟩=true:=by rfl) (hz:zs.contains ii=false:=by rfl):Dg P R n ops kt zs (.act ii order) C s w:=by
  obtain⟨inf,z,hinf,-,hs_,-,-⟩:=hE.info;have hh:=hF.heap hi;have hr:=run_append_room (P:=P) w t ty e inf hE.ht hinf b len c cur.toArray hh a k c2 cs (by rw[hs_];exact hn) hsrc h1 hroom (by rw[hs_];simpa using hfit);rw[hs_]at hr;have hs:=BG (o:=len*m) (cs:=cs) hh;have e1:(cur.toArray.toList.take (len*m)++cs++cur.toArray.toList.drop (len*m+aL cs)).toArray=(Dn cur (len*m) cs).toArray:=by simp[Dn]
  rw[e1]at hr;have hrr:=h _ (hF.change i hi hs.2 hs.1) hs.2;exact Hm hii (Vs hx hy hr) hrr.1 hrr.2 hw hz
theorem o_clear(i:Nat){bytes b o q c:Nat}{z:Value}{zl:List Value}(hE:Elems P t e m bytes)(hzv:∀w,(zeroValue e).run P w=.ok z w)(hc:z.cells=zl.toArray)(hzo:∀v∈zl,v.oneCell'=true)(hF:FR w0 Ds bs_ w)(hi:bs_[i]? = some (b,.cells cur.toArray T))(hx:ev n s x=.slice (some ⟨b,o,none⟩) q c)(hq:0<q)(hfit:o+aL (Wn zl q)<=aL cur)
    (h:∀w',FR w0 Ds (bs_.set i (b,.cells (Dn cur o (Wn zl q)).toArray T)) w'->Same [b] w w'->Og P R n ops kt rest s w')
    (hw:Ka ops n s ⟨none,.call ⟨.builtin .clear,#[x],#[t]⟩,ty,pos,aft,g⟩=true:=by rfl):Og P R n ops kt (⟨none,.call ⟨.builtin .clear,#[x],#[t]⟩,ty,pos,aft,g⟩::rest) s w:=by
  have hh:=hF.heap hi;have hst:=run_storeCells_at P b o T (Wn zl q) 0 cur.toArray w hh (aS hfit)<|ZI zl hzo q;have hst':(storeCells ⟨b,o,none⟩<|Wn zl q).run P w=.ok () (w.setRow b (Dn cur o<|Wn zl q).toArray):=by grind [Dn]
  have hs:=BG (o:=o) (cs:=Wn zl q) hh;refine o_valn (v:=.tuple #[]) (w':=w.setRow b (Dn cur o<|Wn zl q).toArray) ?_ (h _ (hF.change i hi hs.2 hs.1) hs.2) hw;obtain⟨q',rfl⟩:∃q',q=q'+1:=⟨q-1,by_Om⟩;simp[execOp,resolve,invoke,builtin,hx,Builtin.clear_,run_underlying hE.ht,hzv,hc,BU,hst']
end
set_option synthInstance.maxHeartbeats 0
set_option synthInstance.maxSize 9999
def Fv(xs:List Str)(q:Str->Bool):Int:=match xs.findIdx? q with
  | some k=>(k:Int)
  | none=>-1
theorem findZ_at{j:Nat}(h:j<aL xs)(hn:∀x∈xs.take j,q x=false)(hq:q xs[j]=true):Fv xs q=(j:Int):=by
  have:xs.findIdx? q=some j:=List.findIdx?_eq_some_iff_getElem.2 ⟨h,hq,λi hi=>by simpa using hn xs[i] (List.mem_take_iff_getElem.2 ⟨i,by_Om,rfl⟩)⟩;grind [Fv]
theorem MO(hn:∀x∈xs,q x=false):Fv xs q = -1:=by grind [Fv]
theorem HO(h:¬Fv xs q<0):∃k,k<aL xs/\Fv xs q=(k:Int)/\xs.findIdx? q=some k:=by
  unfold Fv at h ⊢;cases hf:xs.findIdx? q with
  | none=>grind
  | some k=>exact⟨k,(List.findIdx?_eq_some_iff_getElem.1 hf).1,rfl,rfl⟩
theorem GX(h:Fv xs q<0):xs.findIdx? q=none:=by grind [Fv]
theorem H7{p q:Str->Bool}:∀{xs:List Str},(∀x∈xs,p x=q x)->xs.findIdx? p=xs.findIdx? q
  | [],_=>rfl
  | x :: xs, h => by
    rw[List.findIdx?_cons,List.findIdx?_cons,h x Ca,H7 λy hy=>h y qD]
section
variable {b l r names rest:List Str}{out:Str->List Str}{k n j:Nat}
theorem HJ{p:Str->Bool}:∀{xs:List Str}{k:Nat},xs.findIdx? p=some k->xs.find? p=xs[k]?
  | [],k,h=>by simp at h
  | x :: xs, k, h => by
    rw[List.findIdx?_cons]at h;rw[List.find?_cons];cases hp:p x with
    | true=>rw[hp]at h;simp at h;subst h;rfl
    | false =>
      rw[hp]at h;simp only[Bool.false_eq_true,if_false]at h;cases hf:xs.findIdx? p with
      | none=>rw[hf]at h;simp at h
      | some i=>rw[hf]at h;simp at h;subst h;simp[HJ hf]
def MU(hn:rest.Nodup)(hk:k<aL rest)(h:rest.findIdx? (D2 b l r rest)=some k):Ni b l r (n+1) rest=(Ni b l r n (rest.eraseIdx k)).map (rest[k]::·):=by
  rw[Ni,HJ h,List.getElem?_eq_getElem hk];show (Ni b l r n<|rest.erase rest[k]).map _=_;rw[List.erase_eq_eraseIdx_of_idxOf<|Wv hn (List.idxOf_lt_length_of_mem<|eQ hk) hk<|List.getElem_idxOf _]
theorem NV(h:rest.findIdx? (D2 b l r rest)=none):Ni b l r (n+1) rest=none:=by grind [Ni]
def Rz(rest:List Str)(out:Str->List Str)(s:Str)(j:Nat)(y:Str):Nat:=Wf rest out y-if y∈(out s).take j then 1 else 0
theorem ZX(s:Str):Rz rest out s 0=Wf rest out:=by grind [Rz]
theorem dec_all{rest:List Str}{out:Str->List Str}{k:Nat}(hk:k<aL rest):Rz rest out rest[k] (aL (out rest[k]))=Wf (rest.eraseIdx k) out:=by grind [Rz,YB]
def cnt_pos{y s:Str}(hs:s∈rest)(hy:y∈out s):0<Wf rest out y:=List.countP_pos_iff.2 ⟨s,hs,by simpa using hy⟩
def dec_at{s:Str}(hnd:(out s).Nodup)(hj:j<aL (out s)):Rz rest out s j (out s)[j]=Wf rest out (out s)[j]:=by
  unfold Rz;rw[tQ,Nat.sub_zero];intro hm;obtain⟨q,hq,he⟩:=List.mem_take_iff_getElem.1 hm;have:=Wv hnd fX hj he;omega
def dec_step{m:MapL}{s:Str}(h:CntF m (Rz rest out s j))(hnd:(out s).Nodup)(hs:s∈rest)(hj:j<aL (out s)):CntF (Kl m (out s)[j] (.int .i64 ((Wf rest out (out s)[j]-1:Nat):Int))) (Rz rest out s (j+1)):=by
  have e:Rz rest out s (j+1)=λy=>if y=(out s)[j] then Wf rest out (out s)[j]-1 else Rz rest out s j y:=funext λy=>by
    have ht:y∈(out s).take (j+1)↔y∈(out s).take j\/y=(out s)[j]:=by rw[iQ hj,mQ,pQ]
    by_cases e:y=(out s)[j]
    ·rw[uQ e]
     unfold Rz;rw[uQ<|ht.2<|.inr e,e]
    rw[tQ e];unfold Rz;by_cases h2:y∈(out s).take j
    ·rw[uQ h2,uQ<|ht.2<|.inl h2]
    rw[tQ h2,tQ λh=>(ht.1 h).elim h2 e]
  rw[e];exact h.put _ _
theorem BA(hB:Bhd b l r names (aL names) 0 out)(hs:∀s∈rest,s∈names):rest.findIdx? (λx=>decide (((Wf rest out x:Nat):Int)=0))=rest.findIdx? (D2 b l r rest):=by grind [H7,free_iff]
end
theorem FR.rebase{w0 w:World}{Ds:List Nat}{bs_:List (Nat × Obj)}(hF:FR w0 Ds bs_ w)(hs:N.Sublist bs_):FR w (N.map (·.1)) N w :=
  ⟨.refl _ _,λq hq=>⟨(hF.own q<|hs.subset hq).1,.inr<|List.mem_map_of_mem hq⟩,hF.desc.sublist hs⟩
theorem FR.unbase{w0 w1 w:World}{Ds:List Nat}{bs_:List (Nat × Obj)}(hF:FR w1 Ds bs_ w)(hS:Same [] w0 w1)(hD:∀x∈Ds,w0.heap.size<=x):FR w0 [] bs_ w:=by
  refine⟨⟨hF.same.os.trans hS.os,hF.same.tape.trans hS.tape,hF.same.output.trans hS.output,fQ hS.size hF.same.size,λx hx _=>?_⟩,λq hq=>?_,hF.desc⟩
  ·rw[hF.same.block x (Nat.lt_of_lt_of_le hx hS.size) (λhm=>by have:=hD x hm;omega),hS.block x hx Ca]
  have h := hF.own q hq;exact⟨h.1,.inl<|h.2.elim (λh=>fQ hS.size h)<|hD _⟩
def SlB.any{T n c:Nat}{w0 w:World}{Ds:List Nat}{pre post:List (Nat × Obj)}(h:SlB T 1 A n c (xs.map strV) sb)(hn:aL xs=n)(hF:FR w0 Ds (pre++(sb++post)) w)(hl:∀s∈xs,aL s<=maxLen):Rep (λ_=>True) w (Wa xs) [.slice A n c]:=by
  have hr:∀l:List Str,(∀s∈l,aL s<=maxLen)->RepL (λ_=>True) w (l.map Hh) (l.map strV):=λl=>by
    induction l with
    | nil=>intro _;exact RepL.nil_mk
    | cons s l ih =>
      intro h;exact RepL.cons_mk (c1:=[strV s]) (Rep.lit_mk (show Wx (I s) from h s Ca))<|ih λz hz=>h z qA
  exact h.repOf (λq hq=>⟨(hF.own q zM).1,trivial⟩) (hr xs hl) (aS hn)
def EachS(w0:World)(xs:List Str)(q:Str->Bool)(bx:Nat):Prop:=∀x,x∈xs->∀w,Same [] w0 w->Calls prog 139 #[I x,.pointer (some (⟨bx,0,none⟩:Addr))] w (Qb λv w'=>v=.bool (q x)/\Same [] w w')
def idxN_c(xs:List Str)(q:Str->Bool)(bx:Nat)(A:Option Addr)(c:Nat)(S:Nat->Prop)(w0:World)(hX:Rep S w0 (Wa xs) [.slice A (aL xs) c])(hq:EachS w0 xs q bx):Calls prog 130 #[.slice A (aL xs) c,.func (.func 139) #[] #[.pointer (some (⟨bx,0,none⟩:Addr))]] w0 (Qb λv w'=>v=.int .i64 (Fv xs q)/\Same [] w0 w'):=by
 have hXl:=hX.slice_len;simp only[rQ]at hXl;refine Ha func130 ntmps130 ?_;intro hF;refine rn 14<|Za (λμ σ w=>∃(j:Nat),μ=aL xs-j/\(j<=aL xs)/\(∀x∈xs.take j,q x=false)/\AllEq σ [(0,.slice A (aL xs) c),(1,.func (.func 139) #[] #[.pointer<|some<|(⟨bx,0,none⟩:Addr)]),(7,.int .i64<|(aL xs:Nat)),(8,.int .i64<|(j:Int))]/\FR w0 [] [] w) _ ⟨0,O,bZ _,Ca,Gc,hF⟩ ?_;rintro μ σ w ⟨j,rfl,hj,hn,hzz,hF⟩;refine Gh hzz 7 ⟨λhc0=>?_,λhc0=>?_⟩;refine rn 15 ?_;obtain⟨ad0,hA0,hk0,hx0⟩:=hX.str_elem (i:=j) fX;refine Da (v:=.pointer<|some<|ad0.add<|j*1) (Ea (i:=(j:Int)) Hd hA0)<|Da (v:=I<|xs[j]) (Ma qZ<|hF.cell0 hk0) ?_;refine Xk hF (hq _ (List.getElem_mem (l:=xs) (n:=j) fX) _ hF.same) (Ie O en_139 O O) ?_;intro w hF;refine rn 3 ⟨λhc1=>?_,λhc1=>?_⟩;refine rn 7 ?_;exact⟨xQ (Value.int .i64) (findZ_at fX hn hc1).symm,hF.same⟩;refine rn 4<|Tc (Le<|((j+1:Nat):Int)) ?_;refine rn 2 ?_;refine Va ⟨_,?_,j+1,rfl,fX,by rw[iQ fX];intro x hx;exact (mQ.1 hx).elim (hn x) (λh=>by rw[pQ.1 h];simpa using hc1),Gc,hF⟩;omega;refine rn 8 ?_;obtain rfl:j=aL xs:=by_Om
 rw[List.take_length]at hn;exact⟨xQ (Value.int .i64) (MO hn).symm,hF.same⟩
def none_c(x:Str)(f:Str->Nat)(lc:MapL)(bx bc:Nat)(w0:World)(hb:w0.heap[bx]? = some (.cells #[.map (some bc)] 80))(hc:w0.heap[bc]? = some (Ub lc))(hC:CntF lc f):Calls prog 139 #[I x,.pointer (some (⟨bx,0,none⟩:Addr))] w0 (Qb λv w'=>v=.bool (decide (((f x:Nat):Int)=0))/\Same [] w0 w'):=by
 refine Ha func139 ntmps139 ?_;intro hF;refine rn 7 ?_;refine Da (v:=.map<|some bc) (Ma isAgg80 (hx:=O) (by rw[Ra (hF.old hb) 0];rfl)) ?_;refine rn 1<|Da (v:=.int .i64<|((f x:Nat):Int)) (Sf aX bX dX O O (hF.old hc)<|hC x) ?_;refine rn 5 ?_;exact⟨O,hF.same⟩
section
variable {P:Program}{w:World}{ty:TypeId}{pos:String}{aft:Array Edge}{g:Option (Nat × Bool)}{ρ:Operand->Value}{dst:Option Nat}
def ZL{u:Operand}{len c:Nat}{k3:IntKind}(l h m:Nat)(ht:Se P t e sz)(hx:ρ x=.slice A len c)(hy:ρ y=.int k1 (l:Int))(hz:ρ z=.int k2 (h:Int))(hu:ρ u=.int k3 (m:Int))(h1:l<=h)(h2:h<=m)(h3:m<=c) :
    (execOp ρ ⟨dst,.slice t x (some y) (some z) (some u),ty,pos,aft,g⟩).run P w=.ok (.value (.slice (if m=l then A else A.map (·.add (l*sz))) (h-l) (m-l))) w:=by
  have he:=I4 ht.1;have ht':P.underlying t=some (.slice<|P.elem t):=by rw[he];exact ht.1
  have hh:=run_slice_lhm (P:=P) w t A len c ht' k1 k2 k3 l h m fX fX fX fX;have hs:(sizeOf<|P.elem t).run P w=.ok sz w:=by rw[he];exact ht.2 w
  rw[hs]at hh;simp only[execOp,Option.map_none,Option.map_some,hx,hy,hz,hu,run_sliceAt_slice w t _ _ _ _ ht',Sem.run_bind,hh,Result.andThen,sliced,Int.toNat_natCast];rfl
def NO{b len c:Nat}(l h:Nat)(ht:Se P t e sz)(hx:ρ x=W b len c)(hy:ρ y=.int k1 (l:Int))(hz:ρ z=.int k2 (h:Int))(h1:l<=h)(h2:h<=c)(h3:l<c) :
    (execOp ρ ⟨dst,.slice t x (some y) (some z) none,ty,pos,aft,g⟩).run P w=.ok (.value (.slice (some ⟨b,l*sz,none⟩) (h-l) (c-l))) w:=by
  have he:=I4 ht.1;have ht':P.underlying t=some (.slice<|P.elem t):=by rw[he];exact ht.1
  have hh:=run_slice_lh (P:=P) w t (some ⟨b,0,none⟩) len c ht' k1 k2 l h fX fX fX;have hs:(sizeOf<|P.elem t).run P w=.ok sz w:=by rw[he];exact ht.2 w
  rw[hs]at hh;simp only[execOp,Option.map_none,Option.map_some,hx,hy,hz,run_sliceAt_slice w t _ _ _ _ ht',Sem.run_bind,hh,Result.andThen,sliced,Int.toNat_natCast];rw[tQ fX,Qe,Nat.zero_add];rfl
theorem YN{b len c:Nat}{k:IntKind}(m:Nat)(ht:Se P t e sz)(hx:ρ x=W b len c)(hy:ρ y=.int k (m:Int))(hm:m<=len) :
    (execOp ρ ⟨dst,.slice t x (some y) none none,ty,pos,aft,g⟩).run P w=.ok (.value (.slice (some ⟨b,(if c=m then 0 else m*sz),none⟩) (len-m) (c-m))) w:=by grind [GU,Qe]
end
theorem delS_src{w0 w:World}{Ds:List Nat}{g n i T:Nat}(hF:FR w0 Ds [(g,.cells cs.toArray T)] w)(hcs:aL cs=K)(hn:n<=K):∀j u,((cs.drop (i+1)).take (n-(i+1)))[j]? = some u->w.cell? ((⟨g,(if K=i+1 then 0 else (i+1)*1),none⟩:Addr).add j)=some u:=λj u hu=>by
  rw[List.getElem?_take]at hu;split at hu
  ·rw[List.getElem?_drop]at hu
   have hlt:i+1+j<aL cs:=qJ
   rw[tQ fX,Qe,Ra<|hF.heap (i:=0) rfl,List.getElem?_toArray,Nat.mul_one];exact hu
  cases hu
theorem T7{n i:Nat}(hcs:aL cs=K)(hn:n<=K)(hi:i<n):aL (Dn (Dn cs (i*1) ((cs.drop (i+1)).take (n-(i+1)))) ((n-1)*1) (Wn [I []] 1))=K/\(Dn (Dn cs (i*1) ((cs.drop (i+1)).take (n-(i+1)))) ((n-1)*1) (Wn [I []] 1)).take (n-1)=cs.take i++((cs.drop (i+1)).take (n-(i+1))):=by
  simp only[Nat.mul_one];have h0:aL ((cs.drop<|i+1).take (n-(i+1)))=n-(i+1):=qJ
  have h1:aL (Dn cs i<|(cs.drop<|i+1).take (n-(i+1)))=K:=by grind [Dn]
  have h2:aL ((Dn cs i<|(cs.drop<|i+1).take (n-(i+1))).take (n-1))=n-1:=qJ
  have h3:aL (cs.take i++((cs.drop<|i+1).take (n-(i+1))))=n-1:=qJ
  have h4:aL (Wn [I []] 1)=1:=by simp[Wn]
  refine⟨?_,?_⟩
  ·rw[Dn, dQ, dQ, h2, yQ, h1, h4]
   omega
  rw[Dn,List.take_left' h2,Dn,<-sQ,List.take_left' h3]
def RW(g n i K:Nat)(cs:List Value)(w0:World)(hg:w0.heap[g]? = some (.cells cs.toArray 9))(hcs:aL cs=K)(hn:n<=K)(hi:i<n)(hK:K<=maxLen)(h1c:∀v∈cs.take n,one v=true):Calls prog 140 #[W g n K,.int .i64 (i:Int),.int .i64 ((i+1:Nat):Int)] w0 (Qb λv w'=>∃vals:List Value,v=W g (n-1) K/\w'.heap[g]? = some (.cells vals.toArray 9)/\aL vals=K/\vals.take (n-1)=cs.take i++((cs.drop (i+1)).take (n-(i+1)))/\Same [g] w0 w'):=by
 refine Wb func140 ntmps140 O O ?_;have hF:FR w0 [g] [(g,.cells cs.toArray 9)] w0:=FR.open_ (by intro q hq;rw[pQ.1 hq];exact⟨hg,Ca⟩) Ca;refine rn 12 (Da (v:=.slice ((if n=i then some ⟨g,0,none⟩ else (some ⟨g,0,none⟩:Option Addr).map (·.add (i*1)))) ((i+1-i))<|(n-i)) (ZL i (i+1) n Hd O O O O fX fX fX) ?_);refine rn 7<|Da (v:=.bool false) (Gd Vk fX) ?_;refine rn 13<|Vb (.of []) (bQ [0,1,2,3,4,5]<|.act 6<|.free 7 .nil) hF ?_;rintro w hF -;refine⟨λwq=>FR w0 [g] [] wq,hF.mid 1 0,?_⟩;refine rn 2<|Fa O (v:=W g i K) (λw hC=>Ml i Hd O O fX) ?_;refine rn 2<|Fa O (v:=.slice (some ⟨g,(if K=i+1 then 0 else (i+1)*1),none⟩) ((n-(i+1)))<|(K-(i+1))) (λw hC=>YN (i+1) Hd O O fX) ?_;refine f_appR O 0 (k:=n-(i+1)) ((cs.drop<|i+1).take (n-(i+1))) X_ hF O O O (by rw[gZ,yQ,hcs];omega) (delS_src hF hcs hn) fX (by rw[gZ,yQ,hcs];omega) (λv hv=>Zl h1c v (by rw[<-List.drop_take]at hv;exact List.mem_of_mem_drop hv)) ?_;intro w hF hE;clear hE;have eln:i+(n-(i+1))=n-1:=by_Om
 rw[eln];have hF:FR w0 [g] [(g,.cells (Dn cs (i*1)<|(cs.drop<|i+1).take (n-(i+1))).toArray 9)] w:=hF;refine⟨hF.clear,?_⟩;refine rn 9<|Da (v:=.slice (some ⟨g,(n-1)*1,none⟩) ((n-(n-1)))<|(K-(n-1))) (NO (n-1) n Hd O O O fX fX fX) ?_;refine o_clear 0 (q:=n-(n-1)) (z:=I []) (zl:=[I []]) X_ zeroValue9 O Pa hF O O fX (by rw[show n-(n-1)=1 by omega];simp[Dn,Wn,hcs];omega) ?_;intro w hF hE;clear hE;rw[show n-(n-1)=1 by omega]at hF;have hF:FR w0 [g] [(g,.cells (Dn (Dn cs (i*1)<|(cs.drop<|i+1).take (n-(i+1))) ((n-1)*1)<|Wn [I []] 1).toArray 9)] w:=hF;refine rn 9 ?_;exact⟨_,O,hF.heap (i:=0) O,(T7 hcs hn hi).1,(T7 hcs hn hi).2,hF.same⟩
def new_yes(b l r:List Str)(A:Option Addr)(c:Nat)(S:Nat->Prop)(w0:World)(hR:Rep S w0 (.slice ([b,l,r].map Wa)) [.slice A 3 c])(h:Re b=true/\Re l=true/\Re r=true):Calls prog 134 #[.slice A 3 c] w0 (Qb λv w'=>∃B1 B2 B3:Nat,v=.tuple #[.agg #[.map (some B1),.map (some B2),.map (some B3)],.bool true]/\w'.heap[B1]? = some (Ub (Gj b))/\w'.heap[B2]? = some (Ub (Gj l))/\w'.heap[B3]? = some (Ub (Gj r))/\Same [] w0 w') :=
  (I2 [b,l,r] rfl A c S w0 hR).mono λe w' ⟨v,he,hv,hs⟩=>by
    rcases hv with ⟨⟨l',hl',ho'⟩,-⟩|⟨m0,m1,m2,rfl,hP⟩
    ·simp only[oQ, List.not_mem_nil, or_false]at hl'
     rcases hl' with rfl|rfl|rfl
     ·rw[h.1]at ho';cases ho'
     ·rw[h.2.1]at ho';cases ho'
     rw[h.2.2]at ho';cases ho'
    obtain⟨l0, e0, -, B1, h1, -, h2⟩ := hP 0 fX;obtain⟨l1,e1,-,B2,h3,-,h4⟩:=hP 1 fX;obtain⟨l2,e2,-,B3,h5,-,h6⟩:=hP 2 fX;obtain rfl:b=l0:=lQ e0;obtain rfl:l=l1:=lQ e1;obtain rfl:r=l2:=lQ e2;have h1':m0=_:=h1;have h3':m1=_:=h3;have h5':m2=_:=h5;subst h1' h3' h5';exact⟨_,he,B1,B2,B3,O,h2,h4,h6,hs⟩
def new_no(b l r:List Str)(A:Option Addr)(c:Nat)(S:Nat->Prop)(w0:World)(hR:Rep S w0 (.slice ([b,l,r].map Wa)) [.slice A 3 c])(h:¬(Re b=true/\Re l=true/\Re r=true)):Calls prog 134 #[.slice A 3 c] w0 (Qb λv w'=>v=.tuple #[.agg #[.map none,.map none,.map none],.bool false]/\Same [] w0 w') :=
  (I2 [b,l,r] rfl A c S w0 hR).mono λe w' ⟨v,he,hv,hs⟩=>by
    rcases hv with ⟨-,rfl⟩|⟨m0,m1,m2,rfl,hP⟩
    ·exact⟨_,he,O,hs⟩
    obtain⟨l0, e0, h0, -⟩ := hP 0 fX;obtain⟨l1,e1,h1,-⟩:=hP 1 fX;obtain⟨l2,e2,h2,-⟩:=hP 2 fX;obtain rfl:b=l0:=lQ e0;obtain rfl:l=l1:=lQ e1;obtain rfl:r=l2:=lQ e2;exact absurd ⟨h0,h1,h2⟩ h
def FM(b l r names:List Str)(hn:names.Nodup)(hn256:aL names<=256)(hlm:∀s∈names,aL s<=maxLen)(B1 B2 B3:Nat)(A:Option Addr)(c:Nat)(S:Nat->Prop)(w0:World)(h1:w0.heap[B1]? = some (Ub (Gj b)))(h2:w0.heap[B2]? = some (Ub (Gj l)))(h3:w0.heap[B3]? = some (Ub (Gj r)))(hL:Rep S w0 (Wa names) [.slice A (aL names) c])(h:Vm b l r names=false):Calls prog 136 #[.agg #[.map (some B1),.map (some B2),.map (some B3)],.slice A (aL names) c] w0 (Qb λv w'=>∃(bo bc:Nat)(lo lc:MapL)(out:Str->List Str),v=.tuple #[.map (some bo),.map (some bc),.bool true]/\w'.heap[bo]? = some (Ub lo)/\w'.heap[bc]? = some (Ub lc)/\w0.heap.size<=bo/\w0.heap.size<=bc/\bo≠bc/\CntF lc (Wf names out)/\Bhd b l r names (aL names) 0 out/\(∀x,∃(A:Option Addr)(c:Nat),(Ad lo x).getD (aQ)=.slice A (aL (out x)) c/\Rep (λg=>w0.heap.size<=g/\g<w'.heap.size/\g≠bc) w' (Wa (out x)) [.slice A (aL (out x)) c])/\Same [] w0 w') :=
  (QI b l r names hn hn256 hlm B1 B2 B3 A c S w0 h1 h2 h3 hL).mono λe w' ⟨v,he,hv,hs⟩=>by
    rcases hv with ⟨hc,-⟩|⟨bo,bc,lo,lc,out,rfl,-,hk⟩
    ·rw[h]at hc;cases hc
    exact⟨_,he,bo,bc,lo,lc,out,O,hk.1,hk.2.1,hk.2.2.1,hk.2.2.2.1,hk.2.2.2.2.1,hk.2.2.2.2.2.1,hk.2.2.2.2.2.2.1,hk.2.2.2.2.2.2.2,hs⟩
def TT(b l r names:List Str)(hn:names.Nodup)(hn256:aL names<=256)(hlm:∀s∈names,aL s<=maxLen)(B1 B2 B3:Nat)(A:Option Addr)(c:Nat)(S:Nat->Prop)(w0:World)(h1:w0.heap[B1]? = some (Ub (Gj b)))(h2:w0.heap[B2]? = some (Ub (Gj l)))(h3:w0.heap[B3]? = some (Ub (Gj r)))(hL:Rep S w0 (Wa names) [.slice A (aL names) c])(h:Vm b l r names=true):Calls prog 136 #[.agg #[.map (some B1),.map (some B2),.map (some B3)],.slice A (aL names) c] w0 (Qb λv w'=>v=.tuple #[.map none,.map none,.bool false]/\Same [] w0 w') :=
  (QI b l r names hn hn256 hlm B1 B2 B3 A c S w0 h1 h2 h3 hL).mono λe w' ⟨v,he,hv,hs⟩=>by
    rcases hv with ⟨-,rfl⟩|⟨bo,bc,lo,lc,out,-,hc,-⟩
    ·exact⟨_,he,O,hs⟩
    rw[h]at hc;cases hc
theorem FR.takeO{w0 w w':World}{Ds:List Nat}{bs_:List (Nat × Obj)}{b:Nat}{o:Obj}(hF:FR w0 Ds bs_ w)(hE:Same [] w w')(hh:w'.heap[b]? = some o)(hg:w.heap.size<=b):FR w0 Ds ((b,o)::bs_) w' :=
  (hF.ext hE).addD hh (.inl<|fQ hF.same.size hg) λp hp e=>by have:=Ga (hF.own p hp).1;omega
theorem delOwn{w0 w:World}{Ds:List Nat}{pre post:List (Nat × Obj)}{c k:Nat}(hS:SlB 9 1 A (aL zs) c (zs.map strV) sb)(hF:FR w0 Ds (pre++(sb++post)) w)(hk:k<aL zs)(hc:c<=maxLen) :
    Calls prog 140 #[.slice A (aL zs) c,.int .i64 (k:Int),.int .i64 ((k+1:Nat):Int)] w (Qb λv w'=>∃sb',v=.slice A (aL (zs.eraseIdx k)) c/\SlB 9 1 A (aL (zs.eraseIdx k)) c ((zs.eraseIdx k).map strV) sb'/\FR w0 Ds (pre++(sb'++post)) w'):=by
  rcases hS.2 with ⟨hn,-⟩|⟨g,cur,rfl,rfl,h1,h2,h3,h4⟩
  ·omega
  have hb := hF.memHeap (p := (g, .cells cur 9)) Ca;rw[Nat.mul_one]at h3 h4;have hb':w.heap[g]? = some (.cells cur.toList.toArray 9):=by_Om
  refine (RW g (aL zs) k c cur.toList w hb' (aS h3) h1 hk hc λv hv=>?_).mono ?_
  ·rw[h4]at hv
   obtain⟨s,-,rfl⟩:=nQ.1 hv;rfl
  rintro e w' ⟨v, he, vals, rfl, h5, h6, h7, hs⟩;have hel:aL (zs.eraseIdx k)=aL zs-1:=qJ
  rw[hel];refine⟨_,he,_,O,?_,hF.changeMid hs h5⟩;have e1:vals.take (aL zs-1)=(zs.eraseIdx k).map strV:=by
    have e2:(cur.toList.drop<|k+1).take (aL zs-(k+1))=(zs.drop<|k+1).map strV:=by rw[<-List.drop_take,h4,List.map_drop]
    have e3:cur.toList.take k=(zs.take k).map strV:=by rw[List.map_take,<-h4,List.take_take,Nat.min_eq_left fX]
    rw[h7,e2,e3,<-jQ,List.eraseIdx_eq_take_drop_succ]
  exact⟨by rw[rQ,hel];omega,.inr ⟨g,_,O,O,by_Om,h2,by simpa using h6,by rw[Nat.mul_one];simpa using e1⟩⟩
def OutR(N bc:Nat)(w:World)(lo:MapL)(out:Str->List Str):Prop:=∀x,∃(A:Option Addr)(c:Nat),(Ad lo x).getD (aQ)=.slice A (aL (out x)) c/\Rep (λg=>g<N/\g≠bc) w (Wa (out x)) [.slice A (aL (out x)) c]
def OutR.ext{N:Nat}{w w':World}{out:Str->List Str}(h:OutR N bc w lo out)(hs:Same [] w w'):OutR N bc w' lo out:=λx=>by
  obtain⟨A,c,h1,h2⟩:=h x;exact⟨A,c,h1,h2.ext hs⟩
def OutR.store{N x:Nat}{w w':World}{out:Str->List Str}(h:OutR N bc w lo out)(hs:Same [x] w w')(hx:N<=x):OutR N bc w' lo out:=λy=>by
  obtain⟨A,c,h1,h2⟩:=h y;exact⟨A,c,h1,h2.same hs λb hb hn=>by rw[pQ]at hb;omega⟩
theorem FR.joinR{w w':World}{L:List (Nat × Obj)}(hF:FR W0 [] L w)(hM:FR w [] N w'):FR W0 [] (L++N) w':=by
  have hlt:∀q∈L,q.1<w.heap.size:=λq hq=>Ga (hF.own q hq).1;have hge:∀q∈N,w.heap.size<=q.1:=λq hq=>(hM.own q hq).2.resolve_right Ca;refine⟨hF.same.trans hM.same,λq hq=>?_,?_⟩
  ·rcases mQ.1 hq with h|h
   ·have h1 := hF.own q h
    exact⟨(hM.same.block q.1 (hlt q h) Ca).trans h1.1,h1.2⟩
   exact⟨(hM.own q h).1,.inl<|fQ hF.same.size<|hge q h⟩
  rw[List.pairwise_append];exact⟨hF.desc,hM.desc,λp hp q hq=>by have:=hge q hq;have:=hlt p hp;omega⟩
theorem WR{l:List Str}(h:Re l=true):aL l<=256:=by grind [Re]
def SY{a b:List Str}(h:a.Perm b)(out:Str->List Str):Wf a out=Wf b out:=funext λy=>h.countP_eq _
theorem WV{b l r:List Str}{rest done:List Str}(h:aL rest=0)(hT:(Ni b l r (aL rest) rest).map (λz=>done++z)=o):o=some done:=by grind [Ni]
theorem O1{b l r names:List Str}(h:Re b=true/\Re l=true/\Re r=true)(h2:Re names=true)(h3:Vm b l r names=false):Mg b l r names=Ni b l r (aL names) (We names):=by grind [Mg]
def HW{b l r:List Str}{rest done:List Str}{k:Nat}(hn:rest.Nodup)(hk:k<aL rest)(hf:rest.findIdx? (D2 b l r rest)=some k)(h0:(0:Int)<(aL rest:Nat))(hT:(Ni b l r (aL rest) rest).map (λz=>done++z)=o):(Ni b l r (aL (rest.eraseIdx k)) (rest.eraseIdx k)).map (λz=>(done++[rest[k]])++z)=o:=by
  rw[List.length_eraseIdx_of_lt hk];obtain⟨n,hl⟩:∃n,aL rest=n+1:=⟨aL rest-1,by_Om⟩;rw[<-hT,hl,MU hn hk hf,Nat.add_sub_cancel];cases Ni b l r n (rest.eraseIdx k)with
  | none=>rfl
  | some z=>simp
theorem DU{b l r:List Str}{rest done:List Str}(hf:rest.findIdx? (D2 b l r rest)=none)(h0:(0:Int)<(aL rest:Nat))(hT:(Ni b l r (aL rest) rest).map (λz=>done++z)=o):o=none:=by
  obtain⟨n,hl⟩:∃n,aL rest=n+1:=⟨aL rest-1,by_Om⟩;grind [NV]
def PE(b l r names:List Str)(A0 A1 A2 A3:Option Addr)(c0 c1 c2 c3:Nat)(S0 S1 S2 S3:Nat->Prop)(w0:World)(hb9:Rep S0 w0 (Wa b) [.slice A0 (aL b) c0])(hl9:Rep S1 w0 (Wa l) [.slice A1 (aL l) c1])(hr9:Rep S2 w0 (Wa r) [.slice A2 (aL r) c2])(hn:Rep S3 w0 (Wa names) [.slice A3 (aL names) c3])(hlm:∀s∈names,aL s<=maxLen):Calls prog 107 #[.slice A0 (aL b) c0,.slice A1 (aL l) c1,.slice A2 (aL r) c2,.slice A3 (aL names) c3] w0 (Qb λv w'=>∃(A:Option Addr)(c:Nat),v=.tuple #[.slice A (aL ((Mg b l r names).getD [])) c,.bool (Mg b l r names).isSome]/\Rep (Btw w0 w') w' (Wa ((Mg b l r names).getD [])) [.slice A (aL ((Mg b l r names).getD [])) c]/\Same [] w0 w'):=by
 have hb:=hb9.low;have hl:=hl9.low;have hr:=hr9.low;refine Ha func107 ntmps107 ?_;intro hF;refine rn 12 ?_;rintro b1 w hb1 hF -;by_cases hone:¬(Re b=true/\Re l=true/\Re r=true)
 ·
  skip
  refine Ta (new_no b l r _ _ _ _ (hF.rowS 0 O (ds:=[b,l,r].map Wa) (n:=3) (RepL.cons_mk (hF.rep hb)<|RepL.cons_mk (hF.rep hl)<|RepL.cons_mk (c2:=[]) (hF.rep hr) RepL.nil_mk) O fX) hone) ?_;rintro w hF -;refine rn 4 ?_;rintro b2 w hb2 hF -;refine rn 23 ?_;have e:Mg b l r names=none:=by unfold Mg;rw[tQ];rintro⟨h1,h2,h3,h4,-⟩;first|exact hone ⟨h1,h2,h3⟩|(rw[h4]at hc0;cases hc0)
  rw[e];exact⟨none,0,O,Rep.nil_slice 0 fX none,hF.same⟩
 have hone:=Decidable.not_not.1 hone;refine Yb (new_yes b l r _ _ _ _ (hF.rowS 0 O (ds:=[b,l,r].map Wa) (n:=3) (RepL.cons_mk (hF.rep hb)<|RepL.cons_mk (hF.rep hl)<|RepL.cons_mk (c2:=[]) (hF.rep hr) RepL.nil_mk) O fX) hone) ?_;rintro _ w ⟨B1,B2,B3,rfl,hp1,hp2,hp3,hE⟩;have hF:=hF.ext hE;refine rn 4 ?_;intro b3 w hb3 hF hE;have hp1:=Oc hp1 hE;have hp2:=Oc hp2 hE;have hp3:=Oc hp3 hE;refine rn 10<|Ta (once_c names A3 c3 _ _<|hF.rep hn) ?_;intro w hF hE;have hp1:=Oc hp1 hE;have hp2:=Oc hp2 hE;have hp3:=Oc hp3 hE;refine rn 5 ⟨λhc0=>?_,λhc0=>?_⟩
 ·
  refine rn 7 ?_;have e:Mg b l r names=none:=by unfold Mg;rw[tQ];rintro⟨h1,h2,h3,h4,-⟩;first|exact hone ⟨h1,h2,h3⟩|(rw[h4]at hc0;cases hc0)
  rw[e];exact⟨none,0,O,Rep.nil_slice 0 fX none,hF.same⟩
 refine rn 6 ?_;by_cases hcl:Vm b l r names=true
 ·
  have hon:Re names=true:=aS hc0
  have hnd0:=Cy hon;have h256:=WR hon;refine Ta (TT b l r names hnd0 h256 hlm B1 B2 B3 _ _ _ _ hp1 hp2 hp3 (hF.rep hn) hcl) ?_;intro w hF hE;have hp1:=Oc hp1 hE;have hp2:=Oc hp2 hE;have hp3:=Oc hp3 hE;refine rn 5 ?_;rintro b4 w hb4 hF -;refine rn 2 ?_;rintro w hF -;refine rn 18 ?_;have e:Mg b l r names=none:=by unfold Mg;rw[tQ];rintro⟨-,-,-,-,h5⟩;rw[hcl]at h5;cases h5
  rw[e];exact⟨none,0,O,Rep.nil_slice 0 fX none,hF.same⟩
 have hon:Re names=true:=aS hc0
 have hnd0:=Cy hon;have h256:=WR hon;have hcl2:Vm b l r names=false:=aS hcl
 refine Yb (FM b l r names hnd0 h256 hlm B1 B2 B3 _ _ _ _ hp1 hp2 hp3 (hF.rep hn) hcl2) ?_;rintro _ w ⟨bo,bc,lo,lc,out,rfl,hbo,hbc,hgo,hgc,hbne,hC,hB,hO0,hE⟩;obtain⟨N,hN⟩:∃N,N=w.heap.size:=⟨_,rfl⟩;have hO:OutR N bc w lo out:=λx=>by obtain⟨A,c,h1,h2⟩:=hO0 x;exact⟨A,c,h1,h2.weaken λg hg _=>⟨by rw[hN];exact hg.2.1,hg.2.2⟩⟩
 have hboN:bo<N:=by rw[hN];exact Ga hbo
 have hbcN:bc<N:=by rw[hN];exact Ga hbc
 have hbcw:w0.heap.size<=bc:=fQ hF.same.size hgc;have hF:=FR.takeO hF hE hbc hgc;have hNw:N<=w.heap.size:=Nat.le_of_eq hN;clear hE hO0 hgo hgc hbc hN;refine rn 5 ?_;intro b5 w hb5 hF hE;have hbo:=Oc hbo hE;have hO:=hO.ext hE;have hNb:N<=b5:=by_Om
 have hNw:=fQ hNw hE.size;refine rn 2 ?_;intro w hF hE;have hbo:=(hE.block bo (Ga hbo) zS).trans hbo;have hO:=hO.store hE fX;have hNw:=fQ hNw hE.size;refine rn 16<|Yb (NZ A3 (aL names) c3 _) ?_;rintro _ w ⟨bv,rfl,hbv,hgv,hE⟩;have hF:=hF.ext hE;have hbo:=Oc hbo hE;have hO:=hO.ext hE;have hNw:=fQ hNw hE.size;clear hE hgv;refine Yb (FT names A3 c3 _ _ (hF.rep hn) bv hbv fX) ?_;rintro _ w ⟨A9,c9,sb,rfl,hS9,hG_⟩;have hsb:∀q∈sb,N<=q.1/\w0.heap.size<=q.1:=λq hq=>by have h8:=(hG_.own q hq).2.resolve_right Ca;have h7:=hF.same.size;omega
 have hbo:=Oc hbo hG_.same;have hO:=hO.ext hG_.same;have hNw:=fQ hNw hG_.same.size;have hF:=hF.joinR hG_;have hS1:=hF.same;have hb3:=hF.ge (i:=0) rfl;obtain⟨w1,hw1⟩:∃x:World,x=w:=⟨_,rfl⟩;have hF1:FR w1 ([b5,bc]++ids sb) ([(b5,.cells #[.map<|some bc] 80),(bc,Ub lc)]++(sb++[])) w:=by rw[hw1];have h9:=hF.rebase (N:=[(b5,.cells #[.map<|some bc] 80),(bc,Ub lc)]++(sb++[])) (by rw[qQ];exact List.Sublist.append (.cons_cons _<|.cons_cons _<|.cons _<|.cons _ .slnil)<|List.Sublist.refl _);simpa[ids]using h9
 rw[<-hw1]at hbo hO hS1;clear hF;have hF:=hF1;clear hF1 hG_;have hDs:∀x∈[b5,bc]++ids sb,w0.heap.size<=x/\(x≠bc->N<=x):=λx hx=>by rcases mQ.1 hx with h|h;(simp only[oQ,List.not_mem_nil,or_false]at h;rcases h with rfl|rfl;exact⟨hb3,λ_=>hNb⟩;exact⟨hbcw,λh=>absurd rfl h⟩);(obtain⟨q,hq,rfl⟩:=nQ.1 h;exact⟨(hsb q hq).2,λ_=>(hsb q hq).1⟩)
 have hboD:bo∉[b5,bc]++ids sb:=λh=>by have:=(hDs bo h).2 hbne;omega
 have hws1:N<=w1.heap.size:=by rw[hw1];exact hNw
 have hSO:∀g,(g<N/\g≠bc)->g<w1.heap.size/\g∉[b5,bc]++ids sb:=λg hg=>⟨by_Om,λh=>by have:=(hDs g h).2 hg.2;omega⟩;refine rn 10 ?_;refine Za (λμ σ w=>∃(rest:List Str),∃(done:List Str),∃(lc2:MapL),∃(Ar:Option Addr),∃(Ao:Option Addr),∃(cr:Nat),∃(co:Nat),∃(sr:List (Nat × Obj)),∃(so:List (Nat × Obj)),μ=aL rest/\((Ni b l r (aL rest) rest).map (λz=>done++z)=Ni b l r (aL names) (We names))/\(rest.Nodup/\(∀s∈rest,s∈names)/\(∀s∈done,s∈names)/\aL done+aL rest=aL names)/\(CntF lc2<|Wf rest out)/\(SlB 9 1 Ar (aL rest) cr (rest.map strV) sr)/\(SlB 9 1 Ao (aL done) co (done.map strV) so)/\(cr<=maxLen)/\AllEq σ [(12,.map<|some bo),(13,V b5),(14,.slice Ar (aL rest) cr),(15,.slice Ao (aL done) co)]/\FR w1 ([b5,bc]++ids sb) ([(b5,.cells #[.map<|some bc] 80),(bc,Ub lc2)]++(sr++(so++[]))) w) _ ⟨We names,[],lc,A9,none,c9,0,sb,[],O,by rw[Jd];simp,⟨(Mj names).nodup_iff.2 hnd0,λs hs=>Xl.1 hs,Ca,by simp[Jd]⟩,by rw[SY<|Mj names];exact hC,hS9,SlB.nil _ _,hS9.cap.2,Gc,hF⟩ ?_;rintro μ σ w ⟨rest,done,lc2,Ar,Ao,cr,co,sr,so,rfl,hT,hrn,hC2,hSr,hSo,hcr,hzz,hF⟩;refine Gh hzz 9 ⟨λhc2=>?_,λhc2=>?_⟩
 ·
  refine rn 6<|Da (v:=.func (.func 139) #[] #[V b5]) Te ?_;obtain⟨qf,hqf⟩:∃q:Str->Bool,q=λx=>decide (((Wf rest out x:Nat):Int)=0):=⟨_,rfl⟩;refine Ta (idxN_c rest qf b5 _ _ _ _ (SlB.any (pre:=[(b5,.cells #[.map<|some bc] 80),(bc,Ub lc2)]) (post:=(so++[])) hSr O hF λs hs=>hlm s<|hrn.2.1 s hs) (λx hx w2 hs2=>by rw[hqf];exact none_c x _ lc2 b5 bc w2 (Oc (hF.heap (i:=0) O) hs2) (Oc (hF.heap (i:=1) O) hs2) hC2)) ?_;rintro w hF -;refine rn 11 ⟨λhc3=>?_,λhc3=>?_⟩
  ·
   have hno:=GX hc3;rw[hqf,BA hB hrn.2.1]at hno;refine rn 7 ?_;have e:Mg b l r names=none:=by rw[O1 hone hon hcl2];exact DU hno qK hT
   rw[e];exact⟨none,0,O,Rep.nil_slice 0 fX none,(hF.unbase hS1 λx hx=>(hDs x hx).1).same⟩
  obtain⟨k,hk,hz,hf⟩:=HO hc3;rw[hz];rw[hqf,BA hB hrn.2.1]at hf;refine rn 7 ?_;obtain⟨ad0,hA0,hk0,hx0⟩:=(SlB.any (pre:=[(b5,.cells #[.map<|some bc] 80),(bc,Ub lc2)]) (post:=(so++[])) hSr rfl hF λs hs=>hlm s<|hrn.2.1 s hs).str_elem (i:=k) (hk);refine Da (v:=.pointer<|some<|ad0.add<|k*1) (Ea (i:=(k:Int)) Hd hA0)<|Da (v:=I<|rest[k]) (Ma qZ hk0) ?_;refine rn 1 ?_;rintro b6 w hb6 hF -;refine C_ hSo (len':=aL (done++[rest[k]])) (ys:=(done++[rest[k]]).map strV) Ca (by simp[strV]) ?_ (h63:=by have:=hrn.2.2.2;simp only[maxLen];omega) (hbytes:=by have:=hrn.2.2.2;omega);intro A1 c1 o_1 w hS1_o hF hE hnew;refine rn 9 ?_;obtain⟨ad2,hA2,hk2,hx2⟩:=(SlB.any (pre:=[(b6,.cells #[I<|rest[k]] 9),(b5,.cells #[.map<|some bc] 80),(bc,Ub lc2)]) (post:=(o_1++[])) hSr rfl hF λs hs=>hlm s<|hrn.2.1 s hs).str_elem (i:=k) (hk);refine Da (v:=.pointer<|some<|ad2.add<|k*1) (Ea (i:=(k:Int)) Hd hA2)<|Da (v:=I<|rest[k]) (Ma qZ hk2) ?_;obtain⟨Aq,cq,hlk,hQ⟩:=hO rest[k];have hQl:=hQ.slice_len;simp only[rQ]at hQl;refine Da (v:=.slice (Aq) (aL (out rest[k])) cq) (Sf underlying174 bX zeroValue22 O O (((hF.same.block bo (Ga hbo) hboD).trans hbo)) hlk)<|rn 5 ?_;refine Za (λμ σ w=>∃(j:Nat),∃(lc3:MapL),μ=aL (out rest[k])-j/\(j<=aL (out rest[k]))/\(CntF lc3<|Rz rest out rest[k] j)/\AllEq σ [(12,.map<|some bo),(13,V b5),(14,.slice Ar (aL rest) cr),(15,.slice (A1) (aL (done++[rest[k]])) c1),(16,.int .i64<|(k:Int)),(66,.slice (Aq) (aL (out rest[k])) cq),(67,.int .i64<|(aL (out rest[k]):Nat)),(68,.int .i64<|(j:Int))]/\FR w1 ([b5,bc]++ids sb) ([(b6,.cells #[I<|rest[k]] 9),(b5,.cells #[.map<|some bc] 80),(bc,Ub lc3)]++(sr++(o_1++[]))) w) _ ⟨0,lc2,O,bZ _,by rw[ZX];exact hC2,Gc,hF⟩ ?_;rintro μ σ w ⟨j,lc3,rfl,hj,hC3,hzz,hF⟩
  refine Gh hzz 7 ⟨λhc4=>?_,λhc4=>?_⟩
  ·
   refine rn 6 ?_;obtain⟨ad3,hA3,hk3,hx3⟩:=(hF.repE hSO hQ).str_elem (i:=j) fX;refine Da (v:=.pointer<|some<|ad3.add<|j*1) (Ea (i:=(j:Int)) Hd hA3)<|Da (v:=I<|(out rest[k])[j]) (Ma qZ hk3) ?_;refine rn 6<|Da (v:=.int .i64<|((Wf rest out (out rest[k])[j]:Nat):Int)) (Sf aX bX dX O O (hF.heap (i:=2) O)<|(hC3 _).trans (by rw[dec_at (hB.nd _) fX])) ?_;have hcp:=cnt_pos (rest:=rest) (out:=out) (eQ hk)<|List.getElem_mem (l:=out rest[k]) (n:=j) fX;have hcl9:=OX rest out (out rest[k])[j];refine Tc (W4<|((Wf rest out (out rest[k])[j]-1:Nat):Int))<|Pu 2 (v:=.int .i64<|((Wf rest out (out rest[k])[j]-1:Nat):Int)) hF aX bX O O O O ?_;rintro w hF -;have hF:FR w1 ([b5,bc]++ids sb) ([(b6,.cells #[I<|rest[k]] 9),(b5,.cells #[.map<|some bc] 80),(bc,Ub<|Kl (lc3) ((out rest[k])[j])<|.int .i64<|((Wf rest out (out rest[k])[j]-1:Nat):Int))]++(sr++(o_1++[]))) w:=hF;refine rn 4<|Tc (Le<|((j+1:Nat):Int)) ?_;refine rn 2<|Va ⟨_,?_,j+1,Kl (lc3) ((out rest[k])[j])<|.int .i64<|((Wf rest out (out rest[k])[j]-1:Nat):Int),O,fX,dec_step hC3 (hB.nd _) (eQ hk) fX,Gc,hF⟩;omega
  refine rn 6<|Tc (Le<|((k+1:Nat):Int)) ?_;refine Yb (delOwn (pre:=[(b6,.cells #[I<|rest[k]] 9),(b5,.cells #[.map<|some bc] 80),(bc,Ub lc3)]) (post:=(o_1++[])) hSr hF hk hcr) ?_;rintro _ w ⟨sr2,rfl,hSr2,hF⟩;refine rn 3 ?_;obtain rfl:j=aL (out rest[k]):=by_Om
  have hCe:CntF lc3 (Wf (rest.eraseIdx k) out):=by rw[<-dec_all hk];exact hC3
  refine Va ⟨_,?_,rest.eraseIdx k,done++[rest[k]],lc3,Ar,A1,cr,c1,sr2,o_1,O,HW hrn.1 hk hf hc2 hT,(⟨hrn.1.eraseIdx k,λs hs=>hrn.2.1 s<|List.mem_of_mem_eraseIdx hs,λs hs=>(mQ.1 hs).elim (hrn.2.2.1 s) (λh=>by rw[pQ.1 h];exact hrn.2.1 _<|eQ hk),by rw[dQ,List.length_eraseIdx_of_lt hk,List.length_singleton];have:=hrn.2.2.2;omega⟩),hCe,hSr2,hS1_o,hcr,Gc,hF.su⟩;rw[List.length_eraseIdx_of_lt hk];omega
 refine rn 10 ?_;have hr0:aL rest=0:=by_Om
 have e:Mg b l r names=some done:=by rw[O1 hone hon hcl2];exact WV hr0 hT
 rw[e];have hF0:=hF.unbase hS1 λx hx=>(hDs x hx).1;refine⟨Ao,co,O,SlB.rep (pre:=[(b5,.cells #[.map<|some bc] 80),(bc,Ub lc2)]++sr) (post:=[]) (ids:=[]) hSo (by simpa only[sQ]using hF0) (RX.plain λS=>I1 λs hs=>hlm s<|hrn.2.2.1 s hs) Ca,hF0.same⟩
section
variable {w0 w w' w1:World}{i i' L E:List Nat}{sm sl bs_ pre post:List (Nat × Obj)}{pb:Nat}{RV:Value}{cfs cf1:List Cf}
theorem FR.boxC{Ds:List Nat}(hF:FR w0 Ds bs_ w)(hM:Mx i w1 sm pb RV cfs)(hsp:Spl bs_ pre sm post:=by repeat (first|exact Spl.z|apply Spl.c|apply Spl.a)):∃A c,w.cell? ⟨pb,1,none⟩=some (.slice A (aL cfs) c):=by
  obtain⟨A,c,sl,vals,rfl,-,-⟩:=hM.ex;have h:=hF.hh hsp _ zQ;exact⟨A,c,by rw[Ra h 1];rfl⟩
def RX.lowI{u w:World}{i j:List Nat}{ds:List D}(h:RX u i w ds cs)(hi:∀x∈j,x∈i\/x<u.heap.size):RX u j w ds cs:=RepL.weaken (λb hb _=>⟨hb.1,hb.2.1,λhj=>(hi b hj).elim hb.2.2.1 (λh=>by have:=hb.1;omega),hb.2.2.2⟩) h
theorem SlB.cut{n k c:Nat}{xs:List Value}(h:SlB e m A n c xs sb)(hk:k<=n):SlB e m A k c (xs.take (k*m)) sb:=by
  have h1:=h.1;have hkm:k*m<=n*m:=Nat.mul_le_mul_right m hk;refine⟨by rw[gZ,h1];omega,?_⟩;rcases h.2 with ⟨h2,h3,h4⟩|⟨g,cur,h2,h3,h4,h5,h6,h7⟩
  ·grind
  grind
theorem RepL.cut{S:Nat->Prop}{w:World}:∀{ds es:List D}{cs:List Value},RepL S w (ds++es) cs->(∀d∈ds,Ic d=sz)->RepL S w ds (cs.take (aL ds*sz))
  | [],es,cs,_,_=>by simp;exact RepL.nil_mk
  | d :: ds, es, cs, h, hs => by
    rw[List.cons_append]at h;obtain⟨c1,c2,rfl,h1,h2⟩:=RepL.cons_inv h;have l1:aL c1=sz:=(Rep.length h1).trans (hs d Ca);have h3:=RepL.cut h2 λd hd=>hs d (by simp[hd]);have e:(c1++c2).take (aL (d::ds)*sz)=c1++c2.take (aL ds*sz):=by
      rw[kQ,Nat.add_mul,Nat.one_mul,Nat.add_comm,List.take_append,cZ fX,l1,Nat.add_sub_cancel_left]
    rw[e];exact RepL.cons_mk h1 h3
def Mx.parts(h:Mx i w sm pb RV (cfs++cf1)):∃(A:Option Addr)(c:Nat)(sl:List (Nat × Obj)),sm=(pb,.cells #[RV,.slice A (aL (cfs++cf1)) c] 57)::sl/\aL cfs<=c/\∀j w2,Same [pb] w w2->pb∈i->(∀x∈j,x∈i\/w.heap.size<=x)->Mx j w2 ((pb,.cells #[RV,.slice A (aL cfs) c] 57)::sl) pb RV cfs:=by
  obtain⟨A,c,sl,vals,h1,h2,h3⟩:=h.ex;refine⟨A,c,sl,h1,by have:=h2.cap.1;rw[dQ]at this;omega,λj w2 hs hp hj=>⟨A,c,sl,vals.take<|aL cfs*17,O,h2.cut bN,?_⟩⟩;rw[jQ]at h3;have h4:RX (wE w) i w (cfs.map VD) (vals.take<|aL cfs*17):=by
    have:=RepL.cut (sz:=17) h3 (λd hd=>by obtain⟨k,_,rfl⟩:=nQ.1 hd;exact UJ k)
    rwa [rQ]at this
  exact (h4.step hs (λb hb=>by rw[pQ.1 hb];exact hp) hj).empty w2
end
def Oq:List (Str × Tree)->List Value->MapL
  | [],_=>[]
  | z::ac,vs=>(z.1,.agg (vs.take 4).toArray)::Oq ac (vs.drop 4)
theorem KA:∀(ac:List (Str × Tree))(vs cs:List Value)(z:Str × Tree),aL vs=aL ac*4->aL cs=4->Oq (ac++[z]) (vs++cs)=Oq ac vs++[(z.1,.agg cs.toArray)]
  | [], vs, cs, z, h, hc => by
    obtain rfl:vs=[]:=List.eq_nil_of_length_eq_zero (aS h);simp only[kZ,Oq];rw[cZ fX]
  | y :: ac, vs, cs, z, h, hc => by
    rw[kQ,Nat.add_mul]at h;have e1:(vs++cs).take 4=vs.take 4:=by rw[List.take_append_of_le_length fX]
    have e2:(vs++cs).drop 4=vs.drop 4++cs:=by rw[List.drop_append_of_le_length fX]
    rw[List.cons_append,Oq,e1,e2,KA ac (vs.drop 4) cs z (by rw[yQ];omega) hc,Oq];rfl
theorem DC:∀(ac:List (Str × Tree))(vs:List Value),(Oq ac vs).map (·.1)=ac.map (·.1)
  | [],_=>rfl
  | z::ac,vs=>by rw[Oq,iZ,iZ,DC]
theorem NU{vs:List Value}{k:Str}(h:k∉ac.map (·.1)):Ad (Oq ac vs) k=none:=by
  rw[<-DC ac vs]at h;grind [Ad]
theorem LL(z:Str × Tree)(ac:List (Str × Tree))(id:Str):Wm (z::ac) id=if z.1=id then z.2 else Wm ac id:=by grind [Wm,Jc]
theorem TA{S:Nat->Prop}{w:World}(id:Str):∀{ac:List (Str × Tree)}{vs:List Value},RepL S w (ac.map λz=>Sa z.2) vs->∃cs:List Value,(Ad (Oq ac vs) id).getD (.agg #[.int .i64 0,I [],aQ,aQ])=.agg cs.toArray/\aL cs=4/\(∀v∈cs,one v=true)/\Rep S w (Sa (Wm ac id)) cs
  | [],vs,_=>⟨IQ.cells,rfl,rfl,by simp[IQ,one],Zf _ _⟩
  | z :: ac, vs, h => by
    rw[iZ]at h;obtain⟨c1,c2,rfl,h1,h2⟩:=RepL.cons_inv h;have l1:aL c1=4:=h1.length.trans<|Cb _;have e1:(c1++c2).take 4=c1:=by rw[List.take_left' l1]
    have e2:(c1++c2).drop 4=c2:=by rw[List.drop_left' l1]
    rw[Oq,e1,e2,Ef,LL];by_cases e:z.1=id
    ·rw[uQ e, uQ e]
     exact⟨c1,O,l1,h1.one_,h1⟩
    rw[tQ e, tQ e];exact TA id h2
theorem JH{key:Str}{N:Nat}:∀(xs:List Tree)(acc l:List Str),(∀x∈xs,aL (AD x key)<=N)->(∀s∈acc,aL s<=N)->Yp key xs acc=some l->∀s∈l,aL s<=N
  | [],acc,l,_,ha,h=>by rw[Yp]at h;cases h;exact ha
  | x :: xs, acc, l, hx, ha, h => by
    rw[Yp]at h;split at h
    ·exact JH xs _ l (λy hy=>hx y qD) (XJ ha<|hx x Ca) h
    cases h
theorem ids_lim{x:Tree}(h:TinyT x)(key:Str):∀s∈Ob x key,aL s<=140737488355328:=by
  unfold Ob;cases hv:Fk x key with
  | none=>grind
  | some l =>
    obtain⟨-,-,h3⟩:=HC hv;exact JH _ _ l (λy hy=>TR<|fQ (h.kid hy).2.2 fX) Ca h3
theorem XP{x:Tree}(h:TinyT x)(key:Str):aL (Ob x key)<=256:=by
  by_cases he:Ob x key=[]
  ·grind
  have h1 := (Oy he).1;obtain⟨k,t,ks,xs⟩:=x;have h2:=h.2.1;have h3:=Vd xs;rw[Ja]at h2;have e:(Tree.node k t ks xs).items=xs:=rfl;grind
def QD(x:Tree)(key:Str):(Fk x key).getD []=Ob x key:=rfl
theorem ZS{F n:Nat}{path:List Str}{b l r:Tree}{key:Str}(hU:U=Uc [Ob l key,Ob r key])(h:n+Ja l+Ja r<1000){j:Nat}(hj:j<aL U) :
    n+aL (Df (λk m=>Hf rl F (path++[Zo k]) m (Xb b key k) (Xb l key k) (Xb r key k)) n U j).2+Ge (Xb l key U[j])+Ge (Xb r key U[j])<1000:=by
  have h1:=Mq (n:=n) (ks:=U) (λk n=>Am (rl:=rl) F (path++[Zo k]) n (Xb b key k) (Xb l key k)<|Xb r key k) j fX;have h2:=Ze (Xb l key) hj;have h3:=Ze (Xb r key) hj;have h4:=Qi (Xb l key) U<|j+1;have h5:=Qi (Xb r key) U<|j+1;have hn:U.Nodup:=by grind [Id]
  have h6:=Gi hn l key;have h7:=Gi hn r key;grind
theorem UX{l r:Tree}(hl:TinyT l)(hr:TinyT r)(key:Str):∀s∈Uc [Ob l key,Ob r key],aL s<=140737488355328:=λs hs=>by
  grind [Uc,Tq,ids_lim]
def SlB.strs{m n c:Nat}{w0 w:World}{Ds:List Nat}{pre post:List (Nat × Obj)}(h:SlB e 1 A n c (xs.map strV) sb)(hn:aL xs=n)(hF:FR w0 Ds (pre++(sb++post)) w)(hl:∀s∈xs,aL s<=maxLen):Rep (λ_=>True) w (Wa xs) [.slice A n c]:=SlB.any h hn hF hl
section
variable {P:Program}{R:Exit->Act->World->Prop}{n:Nat}{kt:Kt}{s:Nat->Value}{w w0:World}{ops rest:List Oper}{Ds:List Nat}{bs_:List (Nat × Obj)}
variable {d:Nat}{ty:TypeId}{pos:String}{aft:Array Edge}{g:Option (Nat × Bool)}
def BV{zs:Lt}{kt' b:Nat}{l:MapL}{key:Str}{v:Value}(hi:ops[ii]? = some ⟨none,.mapUpdate t x y z,ty,pos,aft,g⟩)(i:Nat)(hF:FR w0 Ds bs_ w)(ht:P.underlying t=some (.map kt' e))(hk:P.underlying kt'=some .string)
    (hx:ev n s x=.map (some b)) (hy:ev n s y=I key) (hv:ev n s z=v) (hb:bs_[i]? = some (b,Ub l)) (hn:Ad l key=none)
    (h:∀w',FR w0 Ds (bs_.set i (b,Ub (l++[(key,v)]))) w'->Same [b] w w'->Dg P R n ops kt zs order (λ_=>True) s w')
    (hw:Ka ops n s ⟨none,.mapUpdate t x y z,ty,pos,aft,g⟩=true:=by rfl) (hz:zs.contains ii=true:=by rfl) (hDT:zs.D=(λ_=>True):=by rfl):Dg P R n ops kt zs (.act ii order) C s w :=
  TE hi (At ht hk hx hy hv (hF.heap hb) hn) (h _ (hF.setObj i hb)<|Ok w b _) hw hz hDT
end
def id_new{f:Str->Nat->Mo}{n j:Nat}{cf1:List Cf}(hU:U.Nodup)(hj:j<aL U)(hac:Df f n U j=(ac,cf1)):U[j]∉ac.map (·.1):=λhm=>by
  have h1:=Oi (f:=f) (n:=n) (ks:=U) j fX;rw[hac]at h1;obtain⟨q,hq,he⟩:=List.mem_take_iff_getElem.1<|h1.subset hm;have:=Wv hU fX hj he;omega
theorem Out.passK{w0 w1 w2 w:World}{i L J:List Nat}{sm sm3 sm4 bs2 pre2 post2:List (Nat × Obj)}{pb:Nat}{RV:Value}{cfs:List Cf}{mo mo':Mo}{q:Sv}(hw:w0.heap.size<=w1.heap.size)(hJ:∀x∈J,x∈L/\x<w1.heap.size)(hi:∀x∈i,x∈L)(hR:Rep (Nq w1 sm4 w2) w2 (Rc (Ee mo.1)) q.cells)(hO:Mo' L w1 sm3 w2 sm4 pb RV (cfs++mo.2))(hs:Same J w2 w)(hF2:FR w0 (Go.Scarf.ids sm) bs2 w)(hsp2:Spl bs2 pre2 sm4 post2)(hm:mo'=mo):Out i w0 sm pb RV cfs mo' (.agg q.cells.toArray) w:=by
  subst hm;refine⟨sm4,q,O,?_,⟨hO.m.step hs (λx hx=>by simp[(hJ x hx).1]) λx hx=>.inl ?_,hF2.hh hsp2,hF2.mc hsp2⟩⟩
  ·have h1 : Rep (Nq w1 sm4 w2) w (Rc<|Ee mo'.1) q.cells := hR.same hs λb hb hn => by have := hn.1.1;have := (hJ b hb).2;omega
   refine h1.weaken λb hb _=>?_;obtain⟨cs,T,hc⟩:=hb.1.2.2;exact⟨⟨fQ hw hb.1.1,Nat.lt_of_lt_of_le hb.1.2.1 hs.size,cs,T,(hs.block b hb.1.2.1 (λhm=>by have:=hb.1.1;have:=(hJ b hm).2;omega)).trans hc⟩,hb.2⟩
  grind
theorem known_c(rl:List Rl)(F:Nat)(hat:AtC rl F):KnC rl F:=by
 intro key i w0 sm pb RV cfs path PA pc b l r x y z hI hall hdp hpn;obtain⟨S,hSo,hT⟩:=hI.tri;obtain⟨SP,hPo,hP⟩:=hI.pth;obtain⟨SR,hRo,hRR⟩:=hI.rul;obtain⟨hx,hy,hz⟩:=Ti hT;have htb:=hI.tb b rfl;have htl:=hI.tl l rfl;have htr:=hI.tr r rfl;have hbt:=(Hc hx).2.2.2.2;have hlt:=(Hc hy).2.2.2.2;have hrt:=(Hc hz).2.2.2.2;simp only[Ee]at hbt hlt hrt;have hll:=XP htl key;have hlr:=XP htr key;obtain⟨U,hU0⟩:∃U,U=Uc [(Ob l key),(Ob r key)]:=⟨_,rfl⟩;obtain⟨f,hf⟩:∃f,f=λk m=>Hf rl F (path++[Zo k]) m (Xb b key k) (Xb l key k) (Xb r key k):=⟨_,rfl⟩;have hUl:=EY (Ob l key)<|Ob r key;rw[<-hU0]at hUl;have hUn:U.Nodup:=by rw[hU0];exact Id _
 refine Wb func81 ntmps81 O O ?_;have hF:FR w0 (Go.Scarf.ids sm) ([]++(sm++[])) w0:=hI.mi.start;refine rn 3 ?_;rintro b1 w hb1 hF -;refine rn 1 ?_;rintro b2 w hb2 hF -;refine rn 1 ?_;rintro b3 w hb3 hF -;refine rn 7 ?_;obtain⟨cA,cC,hcc⟩:=hF.boxC hI.mi.m;refine Da (v:=.slice cA (aL cfs) cC) (Ma isAgg30 hcc)<|rn 10 ?_;refine Yb (NK b key htb.ok.sz (fQ htb.2.2 fX) x.v.cells (hF.repM hSo hbt)<|hI.g.same hF.same hI.off) ?_;rintro _ w ⟨AB,cB,rfl,hRt,hE⟩;rw[QD]at hRt;have hIB:=RX.made (ids:=[b3,b2,b1]++i) hF.same.size (hF.ltD hI.mi.low Ca) hRt;have hF:=hF.ext hE;clear hE hRt;refine rn 13<|Yb (NK l key htl.ok.sz (fQ htl.2.2 fX) y.v.cells (hF.repM hSo hlt)<|hI.g.same hF.same hI.off) ?_;rintro _ w ⟨AL,cL,rfl,hRt,hE⟩;rw[QD]at hRt;have hIL:=RX.made (ids:=[b3,b2,b1]++i) hF.same.size (hF.ltD hI.mi.low Ca) hRt;have hIB:=hIB.ext hE;have hF:=hF.ext hE;clear hE hRt;refine rn 13<|Yb (NK r key htr.ok.sz (fQ htr.2.2 fX) z.v.cells (hF.repM hSo hrt)<|hI.g.same hF.same hI.off) ?_;rintro _ w ⟨AR,cR,rfl,hRt,hE⟩;rw[QD]at hRt;have hIR:=RX.made (ids:=[b3,b2,b1]++i) hF.same.size (hF.ltD hI.mi.low Ca) hRt;have hIB:=hIB.ext hE;have hIL:=hIL.ext hE;have hF:=hF.ext hE;clear hE hRt;refine rn 14<|Tj (v:=λb=>.map<|some b) hF (Ul zZ) ?_;intro b4 w hb4 hF hE;have hIB:=hIB.alloc hE hb4;have hIL:=hIL.alloc hE hb4;have hIR:=hIR.alloc hE hb4;refine rn 9 ?_;intro b5 w hb5 hF hE;have hIB:=hIB.alloc hE hb5;have hIL:=hIL.alloc hE hb5;have hIR:=hIR.alloc hE hb5;have hrow:=hF.rowS 0 rfl (RepL.cons_mk hIL.rep<|RepL.cons_mk (c2:=[]) hIR.rep RepL.nil_mk) (ds:=[Wa<|Ob l key,Wa<|Ob r key]) (n:=2) rfl fX;have hUk:=UX htl htr key;refine Yb (JS [(Ob l key),(Ob r key)] _ 2 _ _ hrow zS (λs hs=>by have:=hUk s hs;omega)) ?_;rintro _ w ⟨AU,cU,rfl,hRt,hE⟩
 have hM:=(hI.mi.at hI.g hF (L:=[b5,b4,b3,b2,b1]) Ca).m.ext hE;have hU:=RX.made (ids:=[b5,b4,b3,b2,b1]++i) hF.same.size (hF.ltD hI.mi.low Ca) hRt;have hF:=hF.ext hE;have hIB:=hIB.ext hE;have hIL:=hIL.ext hE;have hIR:=hIR.ext hE;rw[<-hU0]at hU hUk ⊢;clear hE hRt hrow;refine rn 5 ?_;refine Za (λμ σ w=>∃(j:Nat),∃(ac:List (Str × Tree)),∃(cf1:List Cf),∃(sm1:List (Nat × Obj)),∃(A1:Option Addr),∃(c1:Nat),∃(sk:List (Nat × Obj)),∃(vals:List Value),μ=aL U-j/\(j<=aL U)/\(Df f (aL cfs) U j=(ac,cf1))/\(SlB 9 1 A1 (aL ac) c1 ((ac.map (·.1)).map strV) sk)/\(∀p∈sk,w0.heap.size<=p.1)/\(aL vals=aL ac*4)/\(RX w0 ([b5,b4,b3,b2,b1]++(i++(ids sm1++ids sk))) w [Wa<|Ob b key] [.slice AB (aL (Ob b key)) cB])/\(RX w0 ([b5,b4,b3,b2,b1]++(i++(ids sm1++ids sk))) w [Wa<|Ob l key] [.slice AL (aL (Ob l key)) cL])/\(RX w0 ([b5,b4,b3,b2,b1]++(i++(ids sm1++ids sk))) w [Wa<|Ob r key] [.slice AR (aL (Ob r key)) cR])/\(RX w0 ([b5,b4,b3,b2,b1]++(i++(ids sm1++ids sk))) w [Wa U] [.slice AU (aL U) cU])/\(RX w0 ([b5,b4,b3,b2,b1]++(i++(ids sm1++ids sk))) w (ac.map λz=>Sa z.2) vals)/\(Mx ([b5,b4,b3,b2,b1]++(i++(ids sm1++ids sk))) w sm1 pb RV<|cfs++cf1)/\AllEq σ [(0,V pb),(1,.slice PA (aL path) pc),(6,V b1),(7,V b2),(8,V b3),(9,.int .i64<|(aL cfs:Nat)),(10,.slice (AB) (aL (Ob b key)) cB),(12,.slice (AL) (aL (Ob l key)) cL),(14,.slice (AR) (aL (Ob r key)) cR),(16,.slice A1 (aL ac) c1),(17,.map<|some b4),(58,.slice AU (aL U) cU),(59,.int .i64<|(aL U:Nat)),(60,.int .i64<|(j:Int))]/\FR w0 (Go.Scarf.ids sm) ([(b5,.cells #[.slice (AL) (aL (Ob l key)) cL,.slice (AR) (aL (Ob r key)) cR] 22),(b4,Ub<|Oq ac vals),(b3,.cells #[.bool false,.int .i64 0,I [],aQ,aQ] 36),(b2,.cells ((th x y z)).toArray 61),(b1,.cells #[I key] 9)]++(sm1++(sk++[]))) w) _ ⟨0,[],[],sm,none,0,[],[],rfl,bZ _,rfl,SlB.nil _ _,Ca,rfl,hIB.lowI zP,hIL.lowI zP,hIR.lowI zP,hU.sub qU,RX.nil,by rw[qQ];exact hM.sub qU,⟨rfl,rfl,rfl,rfl,rfl,rfl,rfl,rfl,rfl,rfl,rfl,rfl,rfl,rfl,trivial⟩,hF⟩ ?_
 rintro μ σ w ⟨j,ac,cf1,sm1,A1,c1,sk,vals,rfl,hj,hac,hK,hkn,hvl,hIB,hIL,hIR,hU,hV,hM,hzz,hF⟩;have hcf:=xQ (λz=>aL z.2) hac;simp only at hcf;have hnm:=Oi (f:=f) (n:=aL cfs) (ks:=U) j hj;rw[hac]at hnm;have hacl:=hnm.length_le;simp only[rQ,gZ]at hacl;refine Gh hzz 7 ⟨λhc0=>?_,λhc0=>?_⟩
 ·
  refine rn 3 (Of (λσ w=>∃(w2:World),∃(sm2:List (Nat × Obj)),∃(mo:Mo),∃(b6:Nat),∃(bt:Nat),∃(ac2:List (Str × Tree)),∃(A3:Option Addr),∃(c3:Nat),∃(sk3:List (Nat × Obj)),∃(vals2:List Value),(Df f (aL cfs) U (j+1)=(ac2,cf1++mo.2))/\(SlB 9 1 A3 (aL ac2) c3 ((ac2.map (·.1)).map strV) sk3)/\(∀p∈sk3,p.1∈Go.Scarf.ids sk\/w2.heap.size<=p.1)/\(aL vals2=aL ac2*4)/\(RX w0 (bt::((b6::([b5,b4,b3,b2,b1]++(i++(ids sm1++ids sk))))++ids sm2)) w2 [Wa<|Ob b key] [.slice AB (aL (Ob b key)) cB])/\(RX w0 (bt::((b6::([b5,b4,b3,b2,b1]++(i++(ids sm1++ids sk))))++ids sm2)) w2 [Wa<|Ob l key] [.slice AL (aL (Ob l key)) cL])/\(RX w0 (bt::((b6::([b5,b4,b3,b2,b1]++(i++(ids sm1++ids sk))))++ids sm2)) w2 [Wa<|Ob r key] [.slice AR (aL (Ob r key)) cR])/\(RX w0 (bt::((b6::([b5,b4,b3,b2,b1]++(i++(ids sm1++ids sk))))++ids sm2)) w2 [Wa U] [.slice AU (aL U) cU])/\(RX w0 (bt::((b6::([b5,b4,b3,b2,b1]++(i++(ids sm1++ids sk))))++ids sm2)) w2 (ac2.map λz=>Sa z.2) vals2)/\(Mx (bt::((b6::([b5,b4,b3,b2,b1]++(i++(ids sm1++ids sk))))++ids sm2)) w2 sm2 pb RV<|cfs++cf1++mo.2)/\(w0.heap.size<=w2.heap.size)/\(Same (bt::(b4::ids sk)) w2 w)/\AllEq σ [(0,V pb),(1,.slice PA (aL path) pc),(6,V b1),(7,V b2),(8,V b3),(9,.int .i64<|(aL cfs:Nat)),(10,.slice (AB) (aL (Ob b key)) cB),(12,.slice (AL) (aL (Ob l key)) cL),(14,.slice (AR) (aL (Ob r key)) cR),(16,.slice A3 (aL ac2) c3),(17,.map<|some b4),(58,.slice AU (aL U) cU),(59,.int .i64<|(aL U:Nat)),(60,.int .i64<|(j:Int))]/\FR w0 (Go.Scarf.ids sm) ([(b5,.cells #[.slice (AL) (aL (Ob l key)) cL,.slice (AR) (aL (Ob r key)) cR] 22),(b4,Ub<|Oq ac2 vals2),(b3,.cells #[.bool false,.int .i64 0,I [],aQ,aQ] 36),(b2,.cells ((th x y z)).toArray 61),(b1,.cells #[I key] 9)]++(sm2++(sk3++[]))) w) ?_ ?_)
  ·
   refine rn 2 ?_;have hjU:j<aL U:=by_Om
   obtain⟨wh,hwh⟩:∃u,u=w:=⟨w,rfl⟩;rw[<-hwh]at hIB hIL hIR hU hV hM;have hs:Same [] wh w:=hwh▸Same.refl [] w;refine rn 1 ?_;obtain⟨ad0,hA0,hk0,hx0⟩:=(hU.ext hs).rep.str_elem (i:=j) (hjU);refine Da (v:=.pointer<|some<|ad0.add<|j*1) (Ea (i:=(j:Int)) Hd hA0)<|Da (v:=I<|U[j]) (Ma qZ hk0) ?_;refine rn 1 ?_;intro b6 w hb6 hF hE;have hnb6:=hs.size;rw[<-hb6]at hnb6;have hs:=hs.trans hE;refine rn 3<|Of (λσ w=>∃(w2:World),∃(sm2:List (Nat × Obj)),∃(q:Sv),∃(mo:Mo),∃(bt:Nat),(Df f (aL cfs) U (j+1)=(ac++BE U[j] mo.1,cf1++mo.2))/\(RX w0 (bt::((b6::([b5,b4,b3,b2,b1]++(i++(ids sm1++ids sk))))++ids sm2)) w2 [Rc<|Ee mo.1] q.cells)/\(RX w0 (bt::((b6::([b5,b4,b3,b2,b1]++(i++(ids sm1++ids sk))))++ids sm2)) w2 [Wa<|Ob b key] [.slice AB (aL (Ob b key)) cB])/\(RX w0 (bt::((b6::([b5,b4,b3,b2,b1]++(i++(ids sm1++ids sk))))++ids sm2)) w2 [Wa<|Ob l key] [.slice AL (aL (Ob l key)) cL])/\(RX w0 (bt::((b6::([b5,b4,b3,b2,b1]++(i++(ids sm1++ids sk))))++ids sm2)) w2 [Wa<|Ob r key] [.slice AR (aL (Ob r key)) cR])/\(RX w0 (bt::((b6::([b5,b4,b3,b2,b1]++(i++(ids sm1++ids sk))))++ids sm2)) w2 [Wa U] [.slice AU (aL U) cU])/\(RX w0 (bt::((b6::([b5,b4,b3,b2,b1]++(i++(ids sm1++ids sk))))++ids sm2)) w2 (ac.map λz=>Sa z.2) vals)/\(Mx (bt::((b6::([b5,b4,b3,b2,b1]++(i++(ids sm1++ids sk))))++ids sm2)) w2 sm2 pb RV<|cfs++cf1++mo.2)/\(w0.heap.size<=w2.heap.size)/\(Same (bt::(b4::ids sk)) w2 w)/\AllEq σ [(0,V pb),(1,.slice PA (aL path) pc),(6,V b1),(7,V b2),(8,V b3),(9,.int .i64<|(aL cfs:Nat)),(10,.slice (AB) (aL (Ob b key)) cB),(12,.slice (AL) (aL (Ob l key)) cL),(14,.slice (AR) (aL (Ob r key)) cR),(16,.slice A1 (aL ac) c1),(17,.map<|some b4),(19,V b6),(20,V bt),(58,.slice AU (aL U) cU),(59,.int .i64<|(aL U:Nat)),(60,.int .i64<|(j:Int))]/\FR w0 (Go.Scarf.ids sm) ([(bt,.cells (q.cells).toArray 36),(b6,.cells #[I<|U[j]] 9),(b5,.cells #[.slice (AL) (aL (Ob l key)) cL,.slice (AR) (aL (Ob r key)) cR] 22),(b4,Ub<|Oq ac vals),(b3,.cells #[.bool false,.int .i64 0,I [],aQ,aQ] 36),(b2,.cells ((th x y z)).toArray 61),(b1,.cells #[I key] 9)]++(sm2++(sk++[]))) w) ?_ ?_
   ·
    refine Vb (.of [10]) (bQ [0,1,2,3,5,6]<|.alt 4 (.alt 7 (.alt 8 (.act 9<|.act 10 .nil)<|cQ [9,8,10] .nil)<|cQ [9,7,8,10] .nil)<|cQ [9,4,7,8,10] .nil) hF ?_;intro w hF hE;have hs:=hs.trans hE;refine⟨λwq=>FR w0 (Go.Scarf.ids sm) [(b6,.cells #[I<|U[j]] 9),(b5,.cells #[.slice (AL) (aL (Ob l key)) cL,.slice (AR) (aL (Ob r key)) cR] 22),(b4,Ub<|Oq ac vals),(b3,.cells #[.bool false,.int .i64 0,I [],aQ,aQ] 36),(b2,.cells ((th x y z)).toArray 61),(b1,.cells #[I key] 9)] wq,hF.mid 0 6,?_⟩;refine rn 3 ?_;refine Fa O (v:=I<|Zo U[j]) (λw hC=>by rw[<-(show ([61]:Str)++U[j]=Zo U[j] from O)];exact Xq O O (by have:=hUk _<|eQ hjU;simp only[kQ,aZ];omega)) ?_;refine rn 1<|Fa O (v:=.func (.func 105) #[] #[V b1,V b6]) (λw hC=>Ui) ?_
    repeat' first
     |refine Ip ?_ ?_
     |
      refine Bh 4 ?_;refine Me (Gu path (Zo U[j]) PA pc _ _ (hF.repM hPo hP) jU fX) ?_;rintro _ w ⟨Ap,cp,rfl,hRt,hE⟩
      first|have hPX:=RX.made (ids:=(b301::(b6::([b5,b4,b3,b2,b1]++(i++(ids sm1++ids sk)))))) hF.same.size (hI.lt hF) hRt|have hPX:=RX.made (ids:=(b6::([b5,b4,b3,b2,b1]++(i++(ids sm1++ids sk))))) hF.same.size (hI.lt hF) hRt
      have hF:=hF.ext hE;have hs:=hs.trans hE;clear hE hRt;refine⟨hF.su,?_⟩
     |
      refine Bh 7 ?_
      first|refine Me (VG b l r key U[j] b1 b6 x y z _ _ (hF.repM hSo hT) (hF.cell 5 rfl rfl) (hF.cell 0 rfl rfl) htb htl htr (hI.g.same hF.same hI.off)) ?_|refine Me (VG b l r key U[j] b1 b6 x y z _ _ (hF.repM hSo hT) (hF.cell 6 rfl rfl) (hF.cell 1 rfl rfl) htb htl htr (hI.g.same hF.same hI.off)) ?_
      rintro _ w ⟨q0,q1,q2,rfl,hRt,hE⟩
      first|have hTX:=RX.made (ids:=(b301::(b6::([b5,b4,b3,b2,b1]++(i++(ids sm1++ids sk)))))) hF.same.size (hI.lt hF) hRt|have hTX:=RX.made (ids:=(b6::([b5,b4,b3,b2,b1]++(i++(ids sm1++ids sk))))) hF.same.size (hI.lt hF) hRt
      have hF:=hF.ext hE;have hs:=hs.trans hE;have hPX:=hPX.ext hE;clear hE hRt;refine⟨hF.su,?_⟩
     |
      refine Bh 8 ?_
      first|have hlow:=hI.low hF (L:=(b301::(b6::([b5,b4,b3,b2,b1]++(i++(ids sm1++ids sk))))))|have hlow:=hI.low hF (L:=(b6::([b5,b4,b3,b2,b1]++(i++(ids sm1++ids sk)))))
      first|(have hLC:∀x∈(b301::(b6::([b5,b4,b3,b2,b1]++(i++(ids sm1++ids sk))))),x∈([b5,b4,b3,b2,b1]++(i++(ids sm1++ids sk)))\/wh.heap.size<=x:=by intro x hx;simp only[oQ]at hx;grind)|(have hLC:∀x∈(b6::([b5,b4,b3,b2,b1]++(i++(ids sm1++ids sk)))),x∈([b5,b4,b3,b2,b1]++(i++(ids sm1++ids sk)))\/wh.heap.size<=x:=by intro x hx;simp only[oQ]at hx;grind)
      first|(refine Me (hat (b301::(b6::([b5,b4,b3,b2,b1]++(i++(ids sm1++ids sk))))) _ sm1 pb RV (cfs++cf1) (path++[Zo U[j]]) Ap cp _ _ _ q0 q1 q2 ⟨⟨hM.step hs Ca hLC,hF.hh,Rb,hlow⟩,hI.g.same hF.same hI.off,⟨_,Sg Rb,hPX.rep⟩,⟨_,Sg Rb,hTX.rep⟩,⟨_,hF.offM hRo,hF.repM hRo hRR⟩,htb.item _ _,htl.item _ _,htr.item _ _,by rw[dQ,<-hcf,hf];exact ZS hU0 hI.cnt hjU,Cr hI.ptx jU⟩ (Nat.lt_of_lt_of_le (Yl l _ _) hdp) qG) ?_)|(refine Me (hat (b6::([b5,b4,b3,b2,b1]++(i++(ids sm1++ids sk)))) _ sm1 pb RV (cfs++cf1) (path++[Zo U[j]]) Ap cp _ _ _ q0 q1 q2 ⟨⟨hM.step hs Ca hLC,hF.hh,Rb,hlow⟩,hI.g.same hF.same hI.off,⟨_,Sg Rb,hPX.rep⟩,⟨_,Sg Rb,hTX.rep⟩,⟨_,hF.offM hRo,hF.repM hRo hRR⟩,htb.item _ _,htl.item _ _,htr.item _ _,by rw[dQ,<-hcf,hf];exact ZS hU0 hI.cnt hjU,Cr hI.ptx jU⟩ (Nat.lt_of_lt_of_le (Yl l _ _) hdp) qG) ?_)
      rintro _ w2 ⟨sm2,q,rfl,hR,hO⟩;have hst:=NA (f:=f) (n:=aL cfs) hjU;rw[hac]at hst;have hmf:f U[j] (aL cfs+aL cf1)=Hf rl F (path++[Zo U[j]]) (aL (cfs++cf1)) (Xb b key U[j]) (Xb l key U[j]) (Xb r key U[j]):=by rw[hf,dQ]
      simp only[hmf]at hst;obtain⟨mo,hmo⟩:∃mo,mo=Hf rl F (path++[Zo U[j]]) (aL (cfs++cf1)) (Xb b key U[j]) (Xb l key U[j]) (Xb r key U[j]):=⟨_,rfl⟩;rw[<-hmo]at hR hO hst
      first|have hQ:=RX.madeM (i:=((b301::(b6::([b5,b4,b3,b2,b1]++(i++(ids sm1++ids sk)))))++ids sm2)) hF.same.size (λx hx=>(mQ.1 hx).imp (λh=>(hlow x h).2) id) hR|have hQ:=RX.madeM (i:=((b6::([b5,b4,b3,b2,b1]++(i++(ids sm1++ids sk))))++ids sm2)) hF.same.size (λx hx=>(mQ.1 hx).imp (λh=>(hlow x h).2) id) hR
      first|have hIB:=(hIB.step hs Ca hLC).swap (j:=((b301::(b6::([b5,b4,b3,b2,b1]++(i++(ids sm1++ids sk)))))++ids sm2)) hO.mc Rb Rb|have hIB:=(hIB.step hs Ca hLC).swap (j:=((b6::([b5,b4,b3,b2,b1]++(i++(ids sm1++ids sk))))++ids sm2)) hO.mc Rb Rb
      first|have hIL:=(hIL.step hs Ca hLC).swap (j:=((b301::(b6::([b5,b4,b3,b2,b1]++(i++(ids sm1++ids sk)))))++ids sm2)) hO.mc Rb Rb|have hIL:=(hIL.step hs Ca hLC).swap (j:=((b6::([b5,b4,b3,b2,b1]++(i++(ids sm1++ids sk))))++ids sm2)) hO.mc Rb Rb
      first|have hIR:=(hIR.step hs Ca hLC).swap (j:=((b301::(b6::([b5,b4,b3,b2,b1]++(i++(ids sm1++ids sk)))))++ids sm2)) hO.mc Rb Rb|have hIR:=(hIR.step hs Ca hLC).swap (j:=((b6::([b5,b4,b3,b2,b1]++(i++(ids sm1++ids sk))))++ids sm2)) hO.mc Rb Rb
      first|have hU:=(hU.step hs Ca hLC).swap (j:=((b301::(b6::([b5,b4,b3,b2,b1]++(i++(ids sm1++ids sk)))))++ids sm2)) hO.mc Rb Rb|have hU:=(hU.step hs Ca hLC).swap (j:=((b6::([b5,b4,b3,b2,b1]++(i++(ids sm1++ids sk))))++ids sm2)) hO.mc Rb Rb
      first|have hV:=(hV.step hs Ca hLC).swap (j:=((b301::(b6::([b5,b4,b3,b2,b1]++(i++(ids sm1++ids sk)))))++ids sm2)) hO.mc Rb Rb|have hV:=(hV.step hs Ca hLC).swap (j:=((b6::([b5,b4,b3,b2,b1]++(i++(ids sm1++ids sk))))++ids sm2)) hO.mc Rb Rb
      have hM:=hO.m;have hF:=hF.swapM hO.m hO.hh hO.mc;have hw2:=hF.same.size;clear hR hO hPX hTX hlow hmf hmo hLC hs
      first|have hs:=Same.refl (b301::(b4::ids sk)) w2|have hs:=Same.refl (b4::ids sk) w2
      refine⟨hF.su,?_⟩
     |
      refine Bh 9<|rn 1 ?_;intro b301 w hb301 hF hE;have hnb301:=hs.size;rw[<-hb301]at hnb301
      first|have hs:=hs.step hE Ca|have hs:=hs.trans hE
      try have hPX:=hPX.alloc hE hb301
      try have hTX:=hTX.alloc hE hb301
     |refine Bh 10<|rn 1 ?_;intro w hF hE;have hs:=hs.step hE qJ|refine rn 1 ?_;exact Va ⟨w2,sm2,q,mo,b301,hst,hQ.widen,hIB.widen,hIL.widen,hIR.widen,hU.widen,hV.widen,hM.widen,hw2,hs.mono qJ,Gc,hF⟩
   rintro σ w ⟨w2,sm2,q,mo,bt,hst,hQ,hIB,hIL,hIR,hU,hV,hM,hw2,hs,hzz,hF⟩;refine J9 hzz 8 ⟨λhc1=>?_,λhc1=>?_⟩
   ·
    obtain⟨v1,hv1,hrv⟩:=Zz hQ.rep hc1;have hQv:=RX.one hrv;have hnid:=id_new hUn hjU hac;refine Vb (.of [9]) (bQ [0,1,2,3,6,7]<|.act 4<|.act 5<|.free 8<|.act 9 .nil) hF ?_;intro w hF hE;have hs:=hs.step hE qJ;refine⟨λwq=>FR w0 (Go.Scarf.ids sm) [(bt,.cells (q.cells).toArray 36),(b6,.cells #[I<|U[j]] 9),(b5,.cells #[.slice (AL) (aL (Ob l key)) cL,.slice (AR) (aL (Ob r key)) cR] 22),(b4,Ub<|Oq ac vals),(b3,.cells #[.bool false,.int .i64 0,I [],aQ,aQ] 36),(b2,.cells ((th x y z)).toArray 61),(b1,.cells #[I key] 9)] wq,hF.mid 0 7,?_⟩;refine rn 5 ?_;refine Fa O (v:=.agg (q.v.cells).toArray) (λw hC=>Qa (l:=q.v.cells) nZ rZ O O<|hC.part 0 1 O O)<|rn 1 ?_;intro b11 w hb11 hF hE;have hnb11:=hs.size;rw[<-hb11]at hnb11;have hs:=hs.step hE Ca;refine D4 hK (len':=aL (ac++[(U[j],v1)])) (ys:=(((ac++[(U[j],v1)]).map (·.1)).map strV)) Ca (by simp[strV]) ?_;intro A1 c1 k_1 w hS1_k hF hE hnew;have hnk:∀p∈k_1,p.1∈Go.Scarf.ids sk\/w2.heap.size<=p.1:=λp hp=>(hnew p hp).imp id (λh=>fQ hs.size h);have hs:=hs.step hE λb (hb:b∈Go.Scarf.ids sk)=>.inl (by simp[hb]);refine rn 1<|BV O 4 (v:=.agg q.v.cells.toArray) hF zZ bX O O O O (NU hnid) ?_;intro w hF hE;have hs:=hs.step hE qJ;rw[<-KA ac vals q.v.cells (U[j],v1) hvl rfl]at hF;refine rn 2 ?_;exact Va ⟨w2,sm2,mo,b6,bt,ac++[(U[j],v1)],A1,c1,k_1,vals++q.v.cells,by rw[hst,hv1];rfl,hS1_k,hnk,by rw[dQ,dQ,hvl,List.length_singleton,Nat.add_mul];rfl,hIB,hIL,hIR,hU,by rw[jQ];exact hV.append hQv,hM,hw2,hs,Gc,hF.drop 3⟩
   refine rn 2 ?_;exact Va ⟨w2,sm2,mo,b6,bt,ac,A1,c1,sk,vals,by rw[hst,E0 hQ.rep hc1];simp[BE],hK,λp hp=>.inl<|List.mem_map_of_mem hp,hvl,hIB,hIL,hIR,hU,hV,hM,hw2,hs,Gc,hF.drop 2⟩
  rintro σ w ⟨w2,sm2,mo,b6,bt,ac2,A3,c3,sk3,vals2,hst2,hK3,hnk,hvl2,hIB,hIL,hIR,hU,hV2,hM,hw2,hs,hzz,hF⟩;refine J9 hzz 2<|Tc (Le<|((j+1:Nat):Int)) ?_;refine rn 2 ?_;have hL3:∀x∈([b5,b4,b3,b2,b1]++(i++(ids sm2++ids sk3))),x∈(bt::((b6::([b5,b4,b3,b2,b1]++(i++(ids sm1++ids sk))))++ids sm2))\/w2.heap.size<=x:=(λx hx=>by simp only[mQ,oQ]at hx ⊢;rcases hx with h|h|h|h;(grind);(grind);(grind);(obtain⟨p,hp,rfl⟩:=nQ.1 h;exact (hnk p hp).imp qJ id));refine Va ⟨_,?_,j+1,ac2,cf1++mo.2,sm2,A3,c3,sk3,vals2,O,fX,hst2,hK3,Uz hw2 hkn hnk,hvl2,hIB.step hs Rb hL3,hIL.step hs Rb hL3,hIR.step hs Rb hL3,hU.step hs Rb hL3,hV2.step hs Rb hL3,sQ cfs cf1 mo.2▸hM.step hs Rb hL3,Gc,hF⟩;omega
 refine rn 8 ?_;obtain rfl:j=aL U:=by_Om
 have hak:∀k∈ac.map (·.1),aL k<=maxLen:=λk hk=>by have:=hUk k<|List.mem_of_mem_take<|hnm.subset hk;simp only[maxLen];omega
 have hKr:=SlB.any (pre:=[(b5,.cells #[.slice (AL) (aL (Ob l key)) cL,.slice (AR) (aL (Ob r key)) cR] 22),(b4,Ub<|Oq ac vals),(b3,.cells #[.bool false,.int .i64 0,I [],aQ,aQ] 36),(b2,.cells ((th x y z)).toArray 61),(b1,.cells #[I key] 9)]++sm1) (post:=[]) hK Ca (by simpa only[sQ]using hF) hak
 skip
 obtain⟨o9,ho9⟩:∃o,o=Mg (Ob b key) (Ob l key) (Ob r key) (ac.map (·.1)):=⟨_,rfl⟩;have h9l:aL (o9.getD [])<=aL ac:=by cases ho:o9 with|none=>simp|some u=>have h7:=(Mw<|ho9.symm.trans ho).length_eq;rw[rQ]at h7;simp[h7]
 have hom:=PE (Ob b key) (Ob l key) (Ob r key) (ac.map (·.1)) _ _ _ A1 _ _ _ c1 _ _ _ (λ_=>True) _ hIB.rep hIL.rep hIR.rep (by rw[rQ];exact hKr) hak;rw[<-ho9,rQ]at hom;refine Yb (hom) ?_;rintro _ w ⟨Ao,co,rfl,hRt,hE⟩;have hOX:=RX.made (ids:=([b5,b4,b3,b2,b1]++(i++(ids sm1++ids sk)))) hF.same.size (hI.lt hF) hRt;have hV:=hV.ext hE;have hM:=hM.ext hE;have hF:=hF.ext hE;clear hom hE hRt hIB hIL hIR hU hKr;refine rn 15 ⟨λhc2=>?_,λhc2=>?_⟩
 ·
  refine rn 2 ?_;clear hV hOX;obtain⟨cA2,cC2,sl,hsm1,hcl2,hcut⟩:=hM.parts;subst hsm1;clear hM;have hF:FR w0 (Go.Scarf.ids sm) ([(pb,.cells #[RV,.slice (cA2) (aL (cfs++cf1)) cC2] 57),(b5,.cells #[.slice (AL) (aL (Ob l key)) cL,.slice (AR) (aL (Ob r key)) cR] 22),(b4,Ub<|Oq ac vals),(b3,.cells #[.bool false,.int .i64 0,I [],aQ,aQ] 36),(b2,.cells ((th x y z)).toArray 61),(b1,.cells #[I key] 9)]++(sl++(sk++[]))) w:=hF.perm List.perm_middle.symm;refine rn 6<|Da (v:=.slice cA2 (aL cfs) cC2) (Ml (aL cfs) M_ O O hcl2) ?_;refine rn 3 ?_;intro w hF hE;have hM2:=hcut (([b5,b4,b3,b2,b1]++(i++(ids ((pb,.cells #[RV,.slice (cA2) ((aL cfs)) cC2] 57)::sl)++ids sk)))) _ hE (by simp[Go.Scarf.ids]) λx hx=>.inl (by simpa[Go.Scarf.ids]using hx);refine rn 4 ?_;obtain⟨sm3,hsm3⟩:∃u,u=(pb,.cells #[RV,.slice cA2 (aL cfs) cC2] 57)::sl:=⟨_,rfl⟩;have hF:FR w0 (Go.Scarf.ids sm) ([(b5,.cells #[.slice (AL) (aL (Ob l key)) cL,.slice (AR) (aL (Ob r key)) cR] 22),(b4,Ub<|Oq ac vals),(b3,.cells #[.bool false,.int .i64 0,I [],aQ,aQ] 36),(b2,.cells ((th x y z)).toArray 61),(b1,.cells #[I key] 9)]++(sm3++(sk++[]))) w:=by rw[hsm3];exact hF.perm List.perm_middle
  rw[<-hsm3]at hM2;refine rn 3 ?_;have hlow:=hI.low hF (L:=([b5,b4,b3,b2,b1]++(i++(ids sm3++ids sk))));refine Ed (S_ ⟨⟨hM2,hF.hh,Rb,hlow⟩,hI.g.same hF.same hI.off,⟨_,hF.offM hPo,hF.repM hPo hP⟩,⟨_,hF.offM hSo,hF.repM hSo hT⟩,⟨_,hF.offM hRo,hF.repM hRo hRR⟩,hI.tb,hI.tl,hI.tr,hI.cnt,hI.ptx⟩ 6) (VQ en_45 O O O O O) ?_;have hw3:=hF.same.size;rintro _ w2 ⟨sm4,q9,rfl,hR,hO⟩;have hFa:=hF;clear hF;have hF:=hFa.swapM hO.m hO.hh hO.mc;clear hM2;refine rn 1 ?_;intro w hF hE;have hs9:Same [b3] w2 w:=hE;refine rn 3 ?_;have hkm:Bx (Hf rl F) path (aL cfs) key b l r=Tk path 6 (aL cfs) (some b) (some l) (some r):=by unfold Bx;simp only;rw[<-hU0,<-hf,hac,<-ho9];have hn9:o9=none:=(aS hc2);rw[hn9]
  rw[hkm];exact Out.passK (J:=[b3]) (L:=([b5,b4,b3,b2,b1]++(i++(ids sm3++ids sk)))) hw3 (λx hx=>by rw[pQ.1 hx];exact⟨Ca,(hlow b3 Ca).2⟩) (λx hx=>by simp[hx]) hR hO hs9 hF qW rfl
 refine rn 4<|Da (w':=w) (v:=.agg #[.int .i64 5,I [],aQ,aQ]) Ib ?_;refine rn 1 ?_;intro b12 w hb12 hF hE;have hV:=hV.alloc hE hb12;have hM:=hM.alloc hE hb12;have hOX:=hOX.alloc hE hb12;refine rn 11 ?_;refine Za (λμ σ w=>∃(j:Nat),∃(A2:Option Addr),∃(c2:Nat),∃(si:List (Nat × Obj)),∃(vi:List Value),μ=aL (o9.getD [])-j/\(j<=aL (o9.getD []))/\(SlB 25 4 A2 j c2 vi si)/\(∀p∈si,w0.heap.size<=p.1)/\(RX w0 ([b12,b5,b4,b3,b2,b1]++(i++(Go.Scarf.ids sm1++(Go.Scarf.ids sk++Go.Scarf.ids si)))) w ((((o9.getD []).take j).map (Wm ac)).map Sa) vi)/\(RX w0 ([b12,b5,b4,b3,b2,b1]++(i++(Go.Scarf.ids sm1++(Go.Scarf.ids sk++Go.Scarf.ids si)))) w (ac.map λz=>Sa z.2) vals)/\(RX w0 ([b12,b5,b4,b3,b2,b1]++(i++(Go.Scarf.ids sm1++(Go.Scarf.ids sk++Go.Scarf.ids si)))) w [Wa<|o9.getD []] [.slice Ao (aL (o9.getD [])) co])/\(Mx ([b12,b5,b4,b3,b2,b1]++(i++(Go.Scarf.ids sm1++(Go.Scarf.ids sk++Go.Scarf.ids si)))) w sm1 pb RV<|cfs++cf1)/\AllEq σ [(8,V b3),(17,.map<|some b4),(22,V b12),(108,.slice (Ao) (aL (o9.getD [])) co),(109,.int .i64<|(aL (o9.getD []):Nat)),(110,.int .i64<|(j:Int))]/\FR w0 (Go.Scarf.ids sm) ([(b12,.cells #[.int .i64 5,I [],aQ,.slice A2 j c2] 25),(b5,.cells #[.slice (AL) (aL (Ob l key)) cL,.slice (AR) (aL (Ob r key)) cR] 22),(b4,Ub<|Oq ac vals),(b3,.cells #[.bool false,.int .i64 0,I [],aQ,aQ] 36),(b2,.cells ((th x y z)).toArray 61),(b1,.cells #[I key] 9)]++(sm1++(sk++(si++[])))) w) _ ⟨0,none,0,[],[],rfl,bZ _,SlB.nil _ _,Ca,RX.nil,hV.sub jY,hOX.sub jY,hM.sub jY,ae6,hF⟩ ?_;rintro μ σ w ⟨j,A2,c2,si,vi,rfl,hj,hI2,hin,hVi,hV,hOX,hM,hzz,hF⟩;refine Gh hzz 7 ⟨λhc3=>?_,λhc3=>?_⟩
 ·
  refine rn 5 ?_;obtain⟨wr,hwr⟩:∃u,u=w:=⟨w,rfl⟩;have hwr0:w0.heap.size<=wr.heap.size:=hwr▸hF.same.size;rw[<-hwr]at hV hVi hM hOX;have hs:Same [] wr w:=hwr▸Same.refl [] w;refine rn 1 ?_;obtain⟨ad2,hA2,hk2,hx2⟩:=(hOX.ext hs).rep.str_elem (i:=j) fX;refine Da (v:=.pointer<|some<|ad2.add<|j*1) (Ea (i:=(j:Int)) Hd hA2)<|Da (v:=I<|(o9.getD [])[j]) (Ma qZ hk2) ?_;refine rn 3 ?_;have hs:Same (b12::Go.Scarf.ids si) wr w:=hs.mono Ca;refine rn 5 ?_;have hpk:=TA (o9.getD [])[j] hV;obtain⟨cq,hlk,hlq,hoq,hrq⟩:=hpk;have hVq:=RX.one hrq;refine Da (v:=.agg<|List.toArray cq) (Sf zZ bX cX O O (hF.heap (i:=2) O) hlk)<|ON 1 hF (Zp (l:=cq) xZ rZ cX Pa Pa O hlq) ?_;intro b13 w hb13 hF hE;have hnb13:=hs.size;rw[<-hb13]at hnb13;have hs:=hs.step hE Ca;refine KL [_,_,_,_,_,_,_] [sm1,sk,si] 2 (news:=cq) (len':=j+1) (ys:=vi++cq) H3 hF hI2 O O (by rw[hlq]) (λ_=>⟨_,O,Ce<|hF.cellsAll 0 O⟩) (Zl hoq) qR (O) (O) fX ?_;intro A3 c3 i_3 w hS3_i hF hE hnew;have hni:∀p∈i_3,p.1∈Go.Scarf.ids si\/wr.heap.size<=p.1:=λp hp=>(hnew p hp).imp id (λh=>fQ hs.size h);have hs:=hs.step hE λb (hb:b∈Go.Scarf.ids si)=>.inl (by simp[hb]);refine rn 2 ?_;intro w hF hE;have hs:=hs.step hE qJ;refine rn 4<|Tc (Le<|((j+1:Nat):Int)) ?_;refine rn 2 ?_;have hLI:∀x∈([b12,b5,b4,b3,b2,b1]++(i++(Go.Scarf.ids sm1++(Go.Scarf.ids sk++Go.Scarf.ids i_3)))),x∈([b12,b5,b4,b3,b2,b1]++(i++(Go.Scarf.ids sm1++(Go.Scarf.ids sk++Go.Scarf.ids si))))\/wr.heap.size<=x:=(λx hx=>by simp only[mQ,oQ]at hx ⊢;rcases hx with h|h|h|h|h;(grind);(grind);(grind);(grind);(obtain⟨p,hp,rfl⟩:=nQ.1 h;exact (hni p hp).imp qJ id));refine Va ⟨_,?_,j+1,A3,c3,i_3,vi++cq,O,fX,hS3_i,Uz (fQ hwr0<|gQ _) hin hni,(by rw[iQ fX,jQ,jQ];exact hVi.append hVq:RX w0 _ wr _ _).step hs Rb hLI,hV.step hs Rb hLI,hOX.step hs Rb hLI,hM.step hs Rb hLI,Gc,hF.drop 1⟩
  omega
 refine rn 5<|Ta (Ym ⟨5,[],none,0,0,A2,j,c2⟩) ?_;intro w hF hE;have hVi:=hVi.ext hE;have hM:=hM.ext hE;refine rn 1 ?_;intro w hF hE;have hVi:=hVi.store hE Ca;have hM:=hM.store hE Ca;refine rn 3 ?_;obtain⟨o8,ho8⟩:∃u,o9=some u:=Option.isSome_iff_exists.1 (aS hc2);subst ho8;simp only[Option.getD_some]at *;obtain rfl:j=aL o8:=by_Om
 rw[List.take_length]at hVi;have hkm:Bx (Hf rl F) path (aL cfs) key b l r=(some<|.node 5 [] []<|o8.map<|Wm ac,cf1):=by unfold Bx;simp only;rw[<-hU0,<-hf,hac,<-ho9]
 rw[hkm];refine⟨sm1,⟨true,5,[],none,0,0,A2,aL o8,c2⟩,rfl,?_,⟨hM.sub Rb,hF.hh qW,hF.mc qW⟩⟩;refine Wi (s:=⟨true,.node 5 [] []<|o8.map<|Wm ac⟩) (x:=⟨5,[],none,0,0,A2,aL o8,c2⟩)<|Rep.tree_mk ⟨by_Om,by_Om⟩ Ca (Rep.nil_slice 0 fX none) ?_;rw[Fc];exact hI2.nq (pre:=[_,_,_,_,_,_]) (bs_:=[]) hF hin hVi Rb Ca
section
variable {Q:Tree->Prop}(h0:Q zeroT)(hk:∀ x y,Q x->y∈x.items->Q y)(ha:∀ xs,(∀ x∈xs,Q x)->Q (.node 5 [] [] xs))
include h0
omit h0
include ha
include h0 hk
end
theorem LD(rl:List Rl):∀F,AtC rl F
  | 0=>λi w0 sm pb RV cfs path PA pc b l r x y z _ h=>absurd h<|Nat.not_lt_zero _
  | F+1=>BR rl F (SA rl F<|LD rl F)<|MI rl F (LD rl F)<|.inr<|known_c rl F<|LD rl F
theorem Pv{x:Tree}{m:Int}(hm:0<=m)(h2:m<=200)(h:FF x m=true):Ja x<=200/\Hb x<=2048:=by
  obtain⟨h1,-,h3⟩:=fewB_ok hm h;grind [FV]
theorem EH{b l r:Tree}(hl:Ja l<=256/\Hb l<=16777216)(hr:Ja r<=256/\Hb r<=16777216):Ja (Ig rl b l r).1<=512/\Hb (Ig rl b l r).1<=16777216:=by
  have hz:Ja zeroT<=512/\Hb zeroT<=16777216:=by grind [zeroT,Ja,Oa,Hb,Th,Xf]
  by_cases h:ZM rl b l r
  ·rw[Rj h]
   unfold S9;split
   ·exact C8 (rl:=rl) (F:=39+1) (b:=b) hl hr
   exact hz
  grind [Nn]
def ClT.tiny:ClT TinyT:=⟨λh hy=>h.kid hy,λh hp hs=>h.part hp hs⟩
def cfS_of{c:Cf}(h:CfR c)(ht:CfT TinyT c):CfS c:=by
  have key:∀{s:Sd},SdT TinyT s->Ja s.val<=256/\Hb s.val<=16777216:=fun {s} h=>by
    rcases h with rfl|⟨-,h⟩
    ·simp[noS,zeroT,Ja,Oa,Hb,Th,Xf]
    exact h.2
  exact⟨h,key ht.1,key ht.2.1,key ht.2.2.1⟩
def Y8{b l r:Tree}{c:List Cf}(hb:Ja b<=200/\Hb b<=2048)(hl:Ja l<=200/\Hb l<=2048)(hr:Ja r<=200/\Hb r<=2048)(h:Ig rl b l r=(v,c,0)) :
    ZM rl b l r/\(∀x∈c,CfS x)/\HolIn (aL c) v:=by
  by_cases hk:ZM rl b l r
  ·refine⟨hk, ?_⟩
   rw[Rj hk]at h;have hO:∀{x:Tree},Eb x=true->RigO (some x):=λh y e=>by obtain rfl:=lQ e;exact h
   have hT:∀{x:Tree},Eb x=true->Ja x<=200/\Hb x<=2048->FoO TinyT (some x):=λh hs y e=>by obtain rfl:=lQ e;exact⟨h,by_Om,by_Om⟩
   have h1:=IR (rl:=rl) (39+1) [] 0 _ _ _ (hO hk.1) (hO hk.2.1)<|hO hk.2.2.1;have h2:=atM_T .tiny (rl:=rl) (39+1) [] 0 _ _ _ (hT hk.1 hb) (hT hk.2.1 hl)<|hT hk.2.2.1 hr;have h3:=Am (rl:=rl) (39+1) [] 0 (some b) (some l)<|some r;have d1:=Ve hk.1;have d2:=Ve hk.2.1;have d3:=Ve hk.2.2.1;have h4:=λL=>NH (L:=L) (pick:=[]) (rl:=rl) (39+1) [] 0 _ _ _ 32 (hO hk.1) (hO hk.2.1) (hO hk.2.2.1) (Nat.lt_of_le_of_lt d2 fX) d1 d2 d3;obtain⟨u,hu⟩:=NI (rl:=rl) (39+1) [] 0 (some b) l r;generalize Hf rl (39+1) [] 0 (some b) (some l) (some r)=q at *;obtain⟨q1,q2⟩:=q;simp only at hu;subst hu;unfold S9 at h;simp only[Option.getD_some]at h;split at h
   ·simp only[Prod.mk.injEq, and_true]at h
    obtain⟨rfl,rfl⟩:=h;refine⟨λx hx=>cfS_of (h1 x hx)<|h2 x hx,λt ht=>?_⟩;simp only[Ge]at h3;have h5:=(h4 q2 (λi x hx=>by rw[Nat.zero_add];exact hx) (by simp only[Nat.zero_add];omega)).holes _ rfl;have h6:=h5.mem_iff.1 ht;unfold It at h6;obtain⟨i,hi,rfl⟩:=nQ.1 h6;have:=List.mem_range.1 hi;dsimp only at this;exact⟨i,this,by_Om,by rw[Nat.zero_add]⟩
   simp at h
  rw[Nn hk]at h;simp at h
def UV{b l r:Tree}{c:List Cf}(hb:Ja b<=200/\Hb b<=2048)(hl:Ja l<=200/\Hb l<=2048)(hr:Ja r<=200/\Hb r<=2048)(h:Ig rl b l r=(v,c,0)):aL c<1000:=by
  by_cases hk:ZM rl b l r
  ·have h3 := Am (rl := rl) (39 + 1) [] 0 (some b) (some l) (some r)
   rw[Rj hk]at h;unfold S9 at h;split at h
   ·obtain rfl := (Prod.mk.inj (Prod.mk.inj h).2).1
    simp only[Ge]at h3;omega
   obtain rfl := (Prod.mk.inj (Prod.mk.inj h).2).1;simp
  rw[Nn hk]at h;obtain rfl:=(Prod.mk.inj (Prod.mk.inj h).2).1;simp
def and_rng(a:Int):0<=bits .and .i64 a 1023/\bits .and .i64 a 1023<=1023:=by
  unfold bits;simp only[];have h:((BitVec.ofInt 64 a) &&& (BitVec.ofInt 64 1023)).toNat<=1023:=by
    rw[BitVec.toNat_and];exact Nat.and_le_right
  have e2:∀n:Nat,n<=1023->0<=IntKind.i64.wrap (n:Int)/\IntKind.i64.wrap (n:Int)<=1023:=λn hn=>by rw[Lk fX fX];omega
  exact e2 _ h
def NX{a:Int}(h:0<=a):0<=a.tmod 3/\a.tmod 3<=2:=by
  rw[Int.tmod_eq_emod_of_nonneg h];omega
def AN{b l r:Tree}{c:List Cf}{pick:List Int}(hb:Ja b<=200/\Hb b<=2048)(hl:Ja l<=200/\Hb l<=2048)(hr:Ja r<=200/\Hb r<=2048)(h:Ig rl b l r=(v,c,0))
    (hv:Ja v<=512/\Hb v<=16777216) (hp:aL pick=aL c) (hpk:∀i<aL c,0<=pick.getD i 0/\pick.getD i 0<=2) :
    ∃w,Ai v c pick=(w,0)/\Eb w=true/\(c=[]->w=v)/\Ja w<=1000000/\Hb w<=16777216/\Hf rl 40 [] 0 (some b) (some w) (some b)=(some w,[])/\Ig rl b w b=(w,[],0):=by
  obtain⟨hk,hc,-⟩:=Y8 hb hl hr h;obtain⟨w,h1,h2,h3⟩:=KM fX h hp hpk;have hw:Ja w<=1000000/\Hb w<=16777216:=by
    have:=WH hc pick v hv.2;unfold Ai at h1;split at h1
    ·simp only at h1
     split at h1
     ·split at h1
      ·obtain rfl:=(Prod.mk.inj h1).1;omega
      simp at h1
     simp at h1
    simp at h1
  have hs:Ye (some b) (some b)=true:=(Ny hk.1 hk.1).2 rfl;have ha:Hf rl (39+1) [] 0 (some b) (some w) (some b)=(some w,[]):=by
    by_cases c1:Ye (some w) (some b)=true
    ·exact OY c1
    by_cases c2 : Ye (some b) (some w) = true
    ·exact absurd ((Ny h2 hk.1).2 ((Ny hk.1 h2).1 c2).symm) c1
    exact XX c1 c2 hs
  refine⟨w,h1,h2,h3,hw.1,hw.2,ha,?_⟩;rw[Rj ⟨hk.1,h2,hk.1,hk.2.2.2⟩,ha,fin_open<|Ci h2]
def choose_n(L:List Cf)(pick:List Int)(LA PA:Option Addr)(lc pc n:Nat)(SL SP:Nat->Prop)(t:Tree)(x:Tv)(SX:Nat->Prop)(w0:World)(hn:n=aL pick)(hL:Rep SL w0 (.slice (L.map VD)) [.slice LA (aL L) lc])(hP:Rep SP w0 (.slice (pick.map Pd)) [.slice PA n pc])(hLs:∀c∈L,CfS c)(hX:Rep SX w0 (Sa t) x.cells)(hol:HolIn (aL L) t)(hsz:Ja t<=512)(hmx:Hb t<=16777216)(hG:Gl w0):Calls prog 12 #[.agg (x.cells).toArray,.slice LA (aL L) lc,.slice PA n pc] w0 (Qb λv w'=>∃q:Tv,v=.tuple #[.agg q.cells.toArray,.int .i64 (Ai t L pick).2]/\Rep (Btw w0 w') w' (Sa (Ai t L pick).1) q.cells/\Same [] w0 w'):=by subst hn;exact BJ L pick LA PA lc pc SL SP t x SX w0 hL hP hLs hX hol hsz hmx hG
def BY{f:Nat->Int}{i:Nat}{v:Int}(hf:∀k,0<=f k/\f k<=2)(hv:0<=v/\v<=2):∀k,0<=Nf f i v k/\Nf f i v k<=2:=λk=>by
  unfold Nf;split
  ·exact hv
  exact hf k
theorem T9(w0:World)(hG:Gl w0)(b:Tree)(cb:List Value)(rb:Rep (λ_=>True) w0 (Sa b) cb)(l:Tree)(cl:List Value)(rl:Rep (λ_=>True) w0 (Sa l) cl)(r:Tree)(cr:List Value)(rr:Rep (λ_=>True) w0 (Sa r) cr)(ru:List Rl)(A:Option Addr)(c:Nat)(rru:Rep (λ_=>True) w0 (Ik ru) [.slice A (aL ru) c])(pk:List Int)(Ap:Option Addr)(cp:Nat)(rpk:Rep (λ_=>True) w0 (.slice (pk.map Pd)) [.slice Ap (aL pk) cp]):Calls prog 4 #[.agg cb.toArray,.agg cl.toArray,.agg cr.toArray,.slice A (aL ru) c,.slice Ap (aL pk) cp] w0 (Qb λv w'=>v=.bool true/\Same [] w0 w'):=by
 obtain⟨x,rfl,-⟩:=Hj rb;obtain⟨y,rfl,-⟩:=Hj rl;obtain⟨z,rfl,-⟩:=Hj rr;refine Ha func4 ntmps4 ?_;intro hF;refine rn 3 ?_;rintro b1 w hb1 hF -;refine rn 1 ?_;rintro b2 w hb2 hF -;refine rn 1 ?_;rintro b3 w hb3 hF -;refine rn 5<|Ta (QT _<|hG.ext hF.same) ?_;rintro w hF -;refine rn 6<|Ta (AZ b 100 fX fX _ _ x.cells<|hF.rep rb) ?_;rintro w hF -;refine rn 2 ⟨λhg0=>?_,λhg0=>?_⟩;refine rn 1<|Ta (AZ l 100 fX fX _ _ y.cells<|hF.rep rl) ?_;rintro w hF -;refine rn 3 ⟨λhg1=>?_,λhg1=>?_⟩;refine rn 1<|Ta (AZ r 100 fX fX _ _ z.cells<|hF.rep rr) ?_;rintro w hF -;refine rn 3 ⟨λhg2=>?_,λhg2=>?_⟩;refine rn 1<|Ta (few18_c ru A c _ _<|hF.rep rru) ?_;rintro w hF -;refine rn 12 ⟨λhc0=>?_,λhc0=>?_⟩;refine rn 7 ?_;exact⟨O,hF.same⟩;have sb:=Pv fX fX (show FF b 100=true by simp_all);have sl:=Pv fX fX (show FF l 100=true by simp_all);have sr:=Pv fX fX (show FF r 100=true by simp_all);have hrk:=few18_ok (show U2 ru=true by simp_all);have hbig1:=EH (rl:=ru) (b:=b) (l:=l) (r:=r) ⟨by_Om,by_Om⟩ ⟨by_Om,by_Om⟩;obtain⟨v1,c1,e,hm1,hm1c,hm1e⟩:∃v c e,(Ig ru b l r).1=v/\(Ig ru b l r).2.1=c/\(Ig ru b l r).2.2=e:=⟨_,_,_,rfl,rfl,rfl⟩;rw[hm1]at hbig1;refine rn 8<|Yb (HK ru b l r (λ_=>(LD ru 40).at) x y z A c _ _ _ _ _ (hF.rep rb) (hF.rep rl) (hF.rep rr) (hF.rep rru) hrk ⟨fQ sb.1 fX,fQ sb.2 fX⟩ ⟨fQ sl.1 fX,fQ sl.2 fX⟩ ⟨fQ sr.1 fX,fQ sr.2 fX⟩<|hG.ext hF.same) ?_;rintro _ w ⟨q1,A1c,k1c,rfl,hR1,hR2,hE⟩;rw[hm1]at hR1;rw[hm1c]at hR2 ⊢;rw[hm1e];have hV1:=NewB.rx hR1 (u:=w0) (i:=[b3,b2,b1]) (by simpa using Uu hG hF);have hC1:=NewB.rx hR2 (u:=w0) (i:=[b3,b2,b1]) (by simpa using Uu hG hF);have hF:=hF.ext hE;clear hE hR1 hR2;refine rn 5 ?_;intro b4 w hb4 hF hE;have hV1:=hV1.alloc hE hb4;have hC1:=hC1.alloc hE hb4;refine rn 12 ⟨λhc1=>?_,λhc1=>?_⟩
 refine rn 7 ?_;exact⟨O,hF.same⟩;obtain rfl:e=0:=by_Om
 have hmv:Ig ru b l r=(v1,c1,0):=by rw[<-hm1,<-hm1c,<-hm1e]
 obtain⟨hok,hcs,hho⟩:=Y8 sb sl sr hmv;have hcl:aL c1<1000:=UV sb sl sr hmv;refine rn 3 ?_;have hS1:Same [] w0 w:=hF.same;obtain⟨w1,hw1⟩:∃u:World,u=w:=⟨w,rfl⟩;have hz4:=hF.cellsAll 3 rfl;have hz5:=hF.cellsAll 0 rfl;have hV1:=hV1.rep;have hC1:=hC1.rep;have hC1l:=hC1.slice_len;simp only[rQ]at hC1l;replace rb:=hF.rep rb;replace rru:=hF.rep rru;replace rpk:=hF.rep rpk;rw[<-hw1]at hS1 hz4 hz5 hV1 hC1 rb rru rpk;clear hF;have hF:FR w1 [] [] w:=by rw[hw1];exact FR.start w []
 have hG1:=hG.ext hS1;refine rn 3<|rn 1 ⟨by_Om,?_⟩;rintro b5 w hb5 hF -;refine rn 10<|Za (λμ σ w=>∃(i:Nat),∃(f:Nat->Int),μ=aL c1-i/\(i<=aL c1)/\(∀k,0<=f k/\f k<=2)/\AllEq σ [(3,.slice A (aL ru) c),(4,.slice Ap (aL pk) cp),(5,.pointer<|some<|(⟨b1,0,none⟩:Addr)),(11,.bool true),(13,.pointer<|some<|(⟨b4,0,none⟩:Addr)),(14,.slice A1c (aL c1) k1c),(16,W b5 (aL c1) (aL c1)),(17,.int .i64<|(i:Int))]/\FR w1 [] [(b5,.cells (Nc (aL c1) f) 3)] w) _ ⟨0,λ_=>0,O,bZ _,λ_=>by simp,Gc,hF⟩ ?_;rintro μ σ w ⟨i,f,rfl,hi,hf,hzz,hF⟩;refine Gh hzz 2<|Of (λσ w=>∃(g:Bool),(g=true->i<aL c1/\i<aL pk)/\AllEq σ [(3,.slice A (aL ru) c),(4,.slice Ap (aL pk) cp),(5,.pointer<|some<|(⟨b1,0,none⟩:Addr)),(11,.bool true),(13,.pointer<|some<|(⟨b4,0,none⟩:Addr)),(14,.slice A1c (aL c1) k1c),(16,W b5 (aL c1) (aL c1)),(17,.int .i64<|(i:Int)),(65,.bool g)]/\FR w1 [] [(b5,.cells (Nc (aL c1) f) 3)] w) ?_ ?_;refine rn 7 ⟨λhg3=>?_,λhg3=>?_⟩;refine rn 6 ?_;exact Va ⟨decide (((i:Int):Int)<((aL pk:Nat):Int)),(by intro h;simp_all <;> omega),Gc,hF⟩;refine rn 6 ?_;exact Va ⟨false,(by intro h;simp_all <;> omega),Gc,hF⟩;rintro σ w ⟨g,hg,hzz,hF⟩;refine J9 hzz 2 ⟨λhc2=>?_,λhc2=>?_⟩;obtain⟨hi1,hi2⟩:=hg qK;refine rn 9 ?_;obtain⟨ad4,hA4,hk4,hx4⟩:=rpk.int_elem (i:=i) hi2;refine Da (v:=.pointer<|some<|ad4.add<|i*1) (Ea (i:=(i:Int)) Ud hA4)<|Da (v:=.int .i64<|pk[i]) (Ma oZ<|hF.cell0 hk4)<|Da (v:=.int .i64<|bits .and .i64 pk[i] 1023) (LS O O O)<|Da (v:=.int .i64<|(bits .and .i64 pk[i] 1023).tmod 3) (x_rem O O Pa O)<|Da (v:=.pointer<|some ⟨b5,i,none⟩) (Ua (i:=((i:Nat):Int)) (i) Ud O O fX fX fX) ?_;refine Cd 0 (l:=[.int .i64<|(bits .and .i64 pk[i] 1023).tmod 3]) (cs':=Nc (aL c1)<|Nf (f) (i)<|(bits .and .i64 pk[i] 1023).tmod 3) hF sZ O (v:=.int .i64<|(bits .and .i64 pk[i] 1023).tmod 3) O O Cm O qN (Bf _) ?_
 rintro w hF -;refine rn 5<|Tc (Le<|((i+1:Nat):Int)) ?_;refine rn 2<|Va ⟨_,?_,i+1,Nf f i<|(bits .and .i64 pk[i] 1023).tmod 3,O,fX,BY hf<|NX (and_rng _).1,Gc,hF⟩;omega;refine rn 4<|Da (v:=.agg (q1.cells).toArray) (Qa (l:=q1.cells) nZ rZ O O<|hF.cells0 λj hj=>hz5 j hj) ?_;refine rn 2 ?_;have hPk:=C9 (hF.heap (i:=0) rfl) (hF.ge (i:=0) rfl) fX (λk _=>by have:=hf k;omega);have hPl:((List.range (aL c1)).map f).length=aL c1:=Ca
 obtain⟨u,hu1,hu2,hu3,hu4,hu5,hu6,hu7⟩:=AN (pick:=(List.range (aL c1)).map f) sb sl sr hmv hbig1 hPl (λk hk=>by simp[List.getD,hk];exact hf k);refine Yb (choose_n c1 ((List.range (aL c1)).map f) A1c (some ⟨b5,0,none⟩) k1c (aL c1) (aL c1) _ _ v1 q1 _ _ hPl.symm (hF.rep hC1) hPk hcs (hF.rep hV1) hho hbig1.1 hbig1.2<|hG1.ext hF.same) ?_;rintro _ w ⟨q2,rfl,hR1,hE⟩;rw[hu1]at hR1 ⊢;have hW:=RX.made (w0:=w1) (ids:=[b5]) hF.same.size (λx hx=>hF.lt_ids (aS hx)) hR1;have hF:=hF.ext hE;clear hE hR1;refine rn 4 ?_;intro b6 w hb6 hF hE;have hW:=hW.alloc hE hb6;refine rn 7<|Da (v:=.bool false) (Gd F7 Ca) ?_;refine rn 2<|Ta (Zg (v':=.bool true) (Up u (fQ hu4 fX) _ _ q2.cells hW.rep (Ae _<|fQ hu5 fX)<|hG1.ext hF.same)<|xQ Value.bool hu2) ?_;intro w hF hE;have hW:=hW.ext hE;refine rn 16 ⟨λhc4=>?_,λhc4=>?_⟩;refine rn 5<|Da (v:=.agg (q1.cells).toArray) (Qa (l:=q1.cells) nZ rZ O O<|hF.cells0 λj hj=>hz5 j hj) ?_;refine Ta (Zg (v':=.bool true) (Sw u v1 _ _ _ _ _ hW.rep<|hF.rep hV1)<|xQ Value.bool (by rw[hu3<|List.eq_nil_of_length_eq_zero fX];exact Rh _)) ?_;intro w hF hE;have hW:=hW.ext hE;refine rn 5 ?_;exact⟨O,hS1.trans hF.same⟩;refine rn 4<|Da (v:=.agg (x.cells).toArray) (Qa (l:=x.cells) nZ rZ O O<|hF.cells0 λj hj=>hz4 j hj) ?_;refine rn 1<|Da (v:=.agg (x.cells).toArray) (Qa (l:=x.cells) nZ rZ O O<|hF.cells0 λj hj=>hz4 j hj) ?_;refine rn 1 ?_;refine Yb (VJ ru b u b (λ_=>at_same ru 39 _ _ _<|.inr<|.inr<|(Ny hok.1 hok.1).2 O) (λ_=>by rw[hu6];exact⟨fQ hu4 fX,fQ hu5 fX⟩) x q2 x A c _ _ _ _ _ (hF.rep rb) hW.rep (hF.rep rb) (hF.rep rru) hrk ⟨by_Om,by_Om⟩ ⟨by_Om,by_Om⟩ ⟨by_Om,by_Om⟩<|hG1.ext hF.same) ?_;rintro _ w ⟨q3,A3c,k3c,rfl,hR1,hR2,hE⟩;rw[hu7]at hR1 ⊢;have hX3:=NewB.rx hR1 (u:=w1) (i:=[b6,b5]) (by simpa using Uu hG1 hF)
 have hF:=hF.ext hE;have hW:=hW.ext hE;clear hE hR1 hR2;refine rn 5 ?_;intro b7 w hb7 hF hE;have hW:=hW.alloc hE hb7;have hX3:=hX3.alloc hE hb7;refine rn 9<|Da (v:=.bool true) (Ah Vk O) ?_;refine rn 4<|Da (v:=.bool true) (Ah Vk O) ?_;refine rn 4 ?_;refine Ta (Zg (v':=.bool true) (LF u u (fQ hu4 fX) (fQ hu4 fX) _ _ _ q3.cells q2.cells hX3.rep hW.rep (Ae _<|fQ hu5 fX) (Ae _<|fQ hu5 fX)<|hG1.ext hF.same)<|xQ Value.bool (by rw[Im hu2 hu2];exact (Ny hu2 hu2).2 O)) ?_;intro w hF hE;have hW:=hW.ext hE;have hX3:=hX3.ext hE;refine rn 5 ?_;exact⟨O,hS1.trans hF.same⟩;refine rn 21 ?_;exact⟨O,hF.same⟩;refine rn 25 ?_;exact⟨O,hF.same⟩;refine rn 29 ?_;exact⟨O,hF.same⟩
end Go.Scarf
