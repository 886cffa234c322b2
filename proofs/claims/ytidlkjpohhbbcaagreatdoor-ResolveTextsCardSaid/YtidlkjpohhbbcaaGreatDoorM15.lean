/- A part of the proof. -/
import Derived.Test.YtidlkjpohhbbcaaGreatDoorRe7
set_option linter.all false
set_option maxHeartbeats 8000000
set_option maxRecDepth 10000
set_option synthInstance.maxHeartbeats 0
set_option synthInstance.maxSize 9999
namespace Go.Scarf
open List renaming length->aL
open Go.RowKit Go.Proofs Go.Proofs.Tryz
variable {s:Sd}{L:List Cf}{pick:List Int}{v x:Tree}{M n:Nat}{h k:Int}{t:Str}{ks:List Str}{xs:List Tree}{S:Nat->Prop}{w:World}{f:Bool}
theorem Hg{L:List Cf}{pick:List Int}{k:Int}:∀(xs:List Tree)(ks:List Str)(j:Nat)(hj:j<aL xs),
    Ng L pick k ks (xs.take (j+1))=((Ng L pick k ks (xs.take j)).1++(Xq L k (ks.getD j []) (Ki xs[j]) (Ce L pick xs[j])).1,(Ng L pick k ks (xs.take j)).2++(Xq L k (ks.getD j []) (Ki xs[j]) (Ce L pick xs[j])).2)
  | [],_,_,hj=>absurd hj Da
  | x :: xs, ks, 0, _ => by
    simp only[List.take_succ_cons,List.take_zero,Ng,nZ,qQ,List.getElem_cons_zero];cases ks <;> rfl
  | x :: xs, ks, j + 1, hj => by
    have ih:=Hg (L:=L) (pick:=pick) (k:=k) xs ks.tail j (aS hj);rw[List.take_succ_cons,Ng,ih,List.take_succ_cons,Ng];have e:ks.tail.getD j []=ks.getD (j+1) []:=by cases ks <;> simp
    simp only[e,List.getElem_cons_succ,sQ]
structure CfS (c:Cf):Prop where
  rig:CfR c
  b:La c.b.val<=256/\Ob c.b.val<=16777216
  l:La c.l.val<=256/\Ob c.l.val<=16777216
  r:La c.r.val<=256/\Ob c.r.val<=16777216
def CfS.ok{c:Cf}(h:CfS c):CfOk c:=⟨⟨by have:=h.b;omega,Sj _ (by have:=h.b;omega)⟩,⟨by have:=h.l;omega,Sj _ (by have:=h.l;omega)⟩,⟨by have:=h.r;omega,Sj _ (by have:=h.r;omega)⟩⟩
def P7(h:SdR s):Gj s=s:=by
  rcases h with rfl|⟨h1,h2⟩
  ·rfl
  unfold Gj;rw[uQ h1,VK h2,<-h1]
theorem EN{c:Cf}(h:CfS c)(pk:Int):La (Hi c pk).1.val<=256/\Ob (Hi c pk).1.val<=16777216:=by
  obtain⟨r1,r2,r3,-⟩:=h.rig;unfold Hi;split
  ·rw[P7 r1]
   exact h.b
  split
  ·rw[P7 r2]
   exact h.l
  split
  ·rw[P7 r3]
   exact h.r
  grind [noS,zeroT,La,Ra,Ob,Sg,Sf]
theorem E5(h:∀c∈L,CfS c)(pick:List Int)(i:Int):La (Q2 L pick i).val<=256/\Ob (Q2 L pick i).val<=16777216:=by grind [Q2,OA,EN,Hi,Gj,noS,zeroT,La,Ra,Ob,Sg,Sf]
theorem ED(h:0<=Ki x):Ce L pick x=Q2 L pick (Ki x):=by
  cases x;grind [Ce]
theorem VH(hL:∀c∈L,CfS c)(pick:List Int)(k:Int)(key:Str)(x:Tree):aL (Xq L k key (Ki x) (Ce L pick x)).2<=256/\aL (Xq L k key (Ki x) (Ce L pick x)).1<=1:=by grind [Xq,ED,E5,Ki,Ck,Q2,Pf]
theorem J6{L:List Cf}(hL:∀c∈L,CfS c)(pick:List Int)(k:Int)(ks:List Str)(xs:List Tree):∀j,j<=aL xs->aL (Ng L pick k ks (xs.take j)).2<=256*j/\aL (Ng L pick k ks (xs.take j)).1<=j
  | 0,_=>by simp[Ng]
  | j + 1, hj => by
    have ih:=J6 hL pick k ks xs j Aa;have h1:=VH hL pick k (ks.getD j [])<|xs[j]' Aa;rw[Hg xs ks j Aa];simp only[dQ];omega
theorem Xs{L:List Cf}{pick:List Int}{k:Int}{ks:List Str}{xs:List Tree}:∀j,j<=aL xs->∀s∈(Ng L pick k ks (xs.take j)).1,s∈ks\/s=[]
  | 0,_=>λs hs=>by simp[Ng]at hs
  | j + 1, hj => λs hs => by
    rw[Hg xs ks j Aa]at hs;rcases mQ.1 hs with hs|hs
    ·exact Xs j Aa s hs
    have:s=ks.getD j []:=by
      unfold Xq at hs;split at hs
      ·split at hs
       ·simpa using hs
       split at hs <;> simp at hs
      simp at hs
    rw[this];by_cases hjk:j<aL ks
    ·left;simp[List.getD,hjk]
    right;simp[List.getD,Nat.not_lt.1 hjk]
def HolIn(n:Nat)(x:Tree):Prop:=∀t∈Ue x,∃i,i<n/\i<1000/\t=Np i
theorem PP(h:HolIn n (.node k t ks xs))(h0:0<=Yr k t):∃i,i<n/\Yr k t=(i:Int):=by
  by_cases hk:k=7
  ·obtain⟨i, hi, hi2, e⟩ := h t (by rw[Ue, uQ hk];simp)
   refine⟨i,hi,?_⟩;have:=PL hi2;rw[e,hk];exact this
  grind [Yr]
def HolIn.kid(h:HolIn n (.node k t ks xs))(hx:x∈xs):HolIn n x:=λs hs=>h s (by
  rw[Ue,Cn];exact kZ _<|List.mem_flatMap.2 ⟨x,hx,hs⟩)
structure OpT (n:Nat) (x:Tree):Prop where
  hol:HolIn n x
  nod:Uc nodeB x=true
  sz:La x<=512
  mx:Ob x<=16777216
def OpT.kid(h:OpT n (.node k t ks xs))(hx:x∈xs):OpT n x :=
  ⟨h.hol.kid hx,(Xe h.nod).2 x hx,by have:=h.sz;have:=Td hx;rw[La]at *;omega,by have:=h.mx;have:=Th hx;rw[Ob]at *;omega⟩
theorem ND{i:Nat}(h:i<aL L):L.getD ((i:Nat):Int).toNat OA=L[i]:=qK
theorem kidF_no{key:Str}(hs:s.has=false):Xq L k key h s=([],[]):=by grind [Xq]
theorem PZ{key:Str}(hs:s.has=true)(hk:k=6):Xq L k key h s=([key],[s.val]):=by grind [Xq]
theorem UH{key:Str}(hs:s.has=true)(hk:¬k=6)(h5:0<=h/\(L.getD h.toNat OA).cls=5):Xq L k key h s=([],s.val.items):=by grind [Xq]
theorem LF{key:Str}(hs:s.has=true)(hk:¬k=6)(h5:¬(0<=h/\(L.getD h.toNat OA).cls=5)):Xq L k key h s=([],[s.val]):=by grind [Xq]
def FillC(L:List Cf)(pick:List Int)(x:Tree):Prop:=∀(LA PA:Option Addr)(lc pc:Nat)(SL SP S:Nat->Prop)(w0:World)(cs:List Value),Rep SL w0 (.slice (L.map ZJ)) [.slice LA (aL L) lc]->Rep SP w0 (.slice (pick.map Lg)) [.slice PA (aL pick) pc]->Rep S w0 (Na x) cs->OpT (aL L) x->Gl w0 ->
  Calls prog 102 #[.agg #[.slice LA (aL L) lc,.slice PA (aL pick) pc],.agg cs.toArray] w0 (Za λv w'=>∃y:Sv,v=.agg y.cells.toArray/\Rep (Btw w0 w') w' (Ad (Ce L pick x)) y.cells/\Same [] w0 w')
def N5(h:Ob x<=M):aL x.text<=M:=by
  cases x with
  | node k t ks xs =>
    rw[Ob]at h;show (aL t)<=M;omega
theorem keys_six(h:Uc nodeB (.node k t ks xs)=true)(hk:k=6):aL ks=aL xs:=by grind [Xe,nodeB,Wj]
theorem VS(L:List Cf)(pick:List Int)(hlp:aL L=aL pick)(hLs:∀c∈L,CfS c)(k:Int)(t:Str)(ks:List Str)(xs:List Tree)(ih:∀x,x∈xs->FillC L pick x):FillC L pick (.node k t ks xs):=by
 intro LA PA lc pc SL SP S w0 cs hL hP hR hop hG;obtain⟨A,c,B,e,rfl,hk0,ht0,hKs,hX⟩:=hR.tree_inv;have hXl:=hX.slice_len;have hLl:=hL.slice_len;have hPl:=hP.slice_len;simp only[rQ]at hLl hPl;have hsz:=hop.sz;rw[La]at hsz;have hxn:=Pf xs;have htm:=N5 hop.mx;have htl:aL t<=140737488355328:=by simp only[Tree.text]at htm;omega
 have hkm:∀s∈ks,aL s<=16777216:=QJ hop.mx;refine Ea func102 ntmps102 ?_;intro hF;refine rn 3 ?_;rintro b1 w hb1 hF -;refine rn 1 ?_;rintro b2 w hb2 hF -;refine rn 1 ?_;rintro b3 w hb3 hF -;refine rn 6<|Ia (DP ⟨k,t,A,aL ks,c,B,aL xs,e⟩ htl _<|hG.ext hF.same) ?_;rintro w hF -;refine rn 10 ⟨λhc0=>?_,λhc0=>?_⟩
 ·
  have hc0i:=hc0;obtain⟨i0,hi0,hhx⟩:=PP hop.hol hc0;have hi0p:i0<aL pick:=Aa
  obtain⟨ad0,cq0,hAd0,hcq0,hcf0⟩:=hL.cf_elem hi0;rw[hhx];refine rn 1<|Rb (zs:=.of []) (bQ [0,1,2,3,4,5,6,7,8,9]<|.alt 10 (bQ [11,12,13]<|.act 14<|.act 15<|.free 16 .nil)<|.act 14<|.act 10<|bQ [11,12,13]<|.act 15<|.free 16 .nil) hF ?_;intro w hF;refine rn 3 ?_;refine Ga O (v:=.pointer<|some<|ad0.add<|i0*17) (λw hC=>Ca (i:=(i0:Int)) Ex hAd0)<|Ga O (v:=.agg (cq0.cells).toArray) (λw hC=>Ma (l:=cq0.cells) isAgg40 sizeOf40 O O<|hC.cells0 hcq0) ?_;refine rn 3 ?_;obtain⟨ad0,hA0,hk0,hx0⟩:=hP.int_elem (i:=i0) hi0p;refine Ga O (v:=.pointer<|some<|ad0.add<|i0*1) (λw hC=>Ca (i:=(i0:Int)) M1 hA0)<|Ga O (v:=J<|pick[i0]) (λw hC=>Xa pZ<|hC.cell0 hk0) ?_
  repeat' first
   |refine R7 ?_ ?_
   |
    refine Bs 10<|Lk (W7 L[i0] cq0 pick[i0] _ _ (hcf0.ext hF.same) (hLs _<|eQ _).ok (hG.ext hF.same)) ?_;rintro _ w ⟨y,rfl,hRt,hE⟩
    first|have hY:=RX.made (ids:=[b301,b3,b2,b1]) hF.same.size (λx hx=>hF.lt_ids (aS hx)) hRt|have hY:=RX.made (ids:=[b3,b2,b1]) hF.same.size (λx hx=>hF.lt_ids (aS hx)) hRt
    have hF:=hF.ext hE;clear hE hRt
    try refine⟨hF,?_⟩
    try refine⟨hF.su,?_⟩
   |
    refine Bs 14<|rn 1 ?_;intro b301 w hb301 hF hE
    try have hY:=hY.alloc hE hb301
   |refine Bs 15<|rn 1 ?_;intro w hF hE;have hY:=hY.store hE qK
   |
    refine rn 6 ?_;intro w hF hE;have hY:=hY.store hE qK;refine rn 3 ?_;have e0:Ce L pick (.node k t ks xs)=(Hi L[i0] pick[i0]).1:=by rw[ED (by rw[T4];exact hc0i),T4];show Q2 L pick (Yr k t)=_;rw[hhx];unfold Q2;simp[List.getD,hi0,hi0p]
    rw[e0];exact⟨y,O,hY.done,hF.same⟩
   |refine rn 1 ?_
 refine rn 8<|Ba (w':=w) (v:=.agg #[J k,I t,aQ,aQ]) Ua ?_;refine rn 1 ?_;rintro b6 w hb6 hF -;refine rn 12<|Sa (λμ σ w=>∃(j:Nat),∃(ac:List Str × List Tree),∃(A1:Option Addr),∃(c1:Nat),∃(sk:List (Nat × Obj)),∃(A2:Option Addr),∃(c2:Nat),∃(si:List (Nat × Obj)),∃(vals:List Value),μ=aL xs-j/\(j<=aL xs)/\(Ng L pick k ks (xs.take j)=ac)/\(SlB 9 1 A1 (aL ac.1) c1 (ac.1.map λs=>Value.string<|bs s) sk)/\(SlB 36 4 A2 (aL ac.2) c2 vals si)/\(RX w0 ([b6,b3,b2,b1]++(ids sk++ids si)) w (ac.2.map Na) vals)/\AllEq σ [(2,V b1),(3,V b2),(4,V b3),(8,V b6),(38,.slice B (aL xs) e),(39,J<|(aL xs:Nat)),(40,J<|(j:Int))]/\FR w0 [] ([(b6,.cells #[J k,I t,.slice A1 (aL ac.1) c1,.slice A2 (aL ac.2) c2] 36),(b3,.cells #[.bool false,J 0,I [],aQ,aQ] 38),(b2,.cells #[J k,I t,.slice A (aL ks) c,.slice B (aL xs) e] 36),(b1,.cells #[.slice LA (aL L) lc,.slice PA (aL pick) pc] 118)]++(sk++(si++[]))) w) _ ⟨0,([],[]),none,0,[],none,0,[],[],O,dZ _,by simp[Ng],SlB.nil _ _,SlB.nil _ _,RX.nil,ae7,hF⟩ ?_;rintro μ σ w ⟨j,ac,A1,c1,sk,A2,c2,si,vals,rfl,hj,hac,hK,hI2,hV,hzz,hF⟩;have hfl:=J6 hLs pick k ks xs j hj;rw[hac]at hfl;refine Wf hzz 7 ⟨λhc1=>?_,λhc1=>?_⟩
 ·
  refine rn 3<|Eb (λσ w=>∃(ac3:List Str × List Tree),∃(A3:Option Addr),∃(c3:Nat),∃(sk3:List (Nat × Obj)),∃(A4:Option Addr),∃(c4:Nat),∃(si3:List (Nat × Obj)),∃(vals3:List Value),(Ng L pick k ks (xs.take<|j+1)=ac3)/\(j<aL xs)/\(SlB 9 1 A3 (aL ac3.1) c3 (ac3.1.map λs=>Value.string<|bs s) sk3)/\(SlB 36 4 A4 (aL ac3.2) c4 vals3 si3)/\(RX w0 ([b6,b3,b2,b1]++(ids sk3++ids si3)) w (ac3.2.map Na) vals3)/\AllEq σ [(2,V b1),(3,V b2),(4,V b3),(8,V b6),(38,.slice B (aL xs) e),(39,J<|(aL xs:Nat)),(40,J<|(j:Int))]/\FR w0 [] ([(b6,.cells #[J k,I t,.slice A3 (aL ac3.1) c3,.slice A4 (aL ac3.2) c4] 36),(b3,.cells #[.bool false,J 0,I [],aQ,aQ] 38),(b2,.cells #[J k,I t,.slice A (aL ks) c,.slice B (aL xs) e] 36),(b1,.cells #[.slice LA (aL L) lc,.slice PA (aL pick) pc] 118)]++(sk3++(si3++[]))) w) ?_ ?_
  ·
   refine rn 2 ?_;have hjx:j<aL xs:=Aa
   obtain⟨adz,cz,hAz,hlz,hkz,hrz⟩:=hX.tree_elem hjx;obtain⟨z,rfl,-⟩:=Pe hrz;have hzp:=Dd hrz;have hzk:Ki xs[j]=Yr z.k z.t:=by rw[T4,hzp.1,hzp.2.1]
   have hzm:=N5 (hop.kid<|List.getElem_mem (l:=xs) hjx).mx;have hzl:aL z.t<=140737488355328:=by rw[hzp.2.1];omega
   have hkid:0<=Yr z.k z.t->∃i,i<aL L/\Yr z.k z.t=(i:Int):=λh=>by rw[hzp.1,hzp.2.1]at h ⊢;have h9:=(hop.kid<|List.getElem_mem (l:=xs) hjx).hol;revert h h9;generalize xs[j]=u;intro h h9;cases u;exact PP h9 h
   skip
   refine rn 2<|Ba (v:=.pointer<|some<|adz.add<|j*4) (Ca (i:=(j:Int)) Fd hAz)<|Ba (v:=.agg (z.cells).toArray) (Ma (l:=z.cells) qZ uZ O O<|hF.cells0 hkz) ?_;refine rn 1 ?_;intro b7 w hb7 hF hE;have hV:=hV.alloc hE hb7;refine rn 2 ?_;intro w hF hE;have hV:=hV.store hE Da;refine rn 6<|Fc (ih _ (eQ _) LA PA lc pc _ _ _ _ z.cells (hF.rep hL) (hF.rep hP) (hF.rep hrz) (hop.kid<|eQ _)<|hG.ext hF.same) ?_;rintro _ w ⟨q,rfl,hRt,hE⟩;have hQ:=RX.made (ids:=(b7::([b6,b3,b2,b1]++(ids sk++ids si)))) hF.same.size (λx hx=>hF.lt_ids (by simp only[ids,jQ,lZ,List.map_nil,qQ,mQ,oQ]at hx ⊢;grind)) hRt;have hF:=hF.ext hE;have hV:=hV.ext hE;clear hE hRt;refine rn 1 ?_;intro b8 w hb8 hF hE;have hV:=hV.alloc hE hb8;have hQ:=hQ.alloc hE hb8;refine rn 5<|Ia (DP z hzl _<|hG.ext hF.same) ?_;intro w hF hE;have hV:=hV.ext hE;have hQ:=hQ.ext hE;refine rn 5 ?_;have hqs:=Lc hQ.rep;refine rn 8 ⟨λhc2=>?_,λhc2=>?_⟩
   ·
    have hqn:(Ce L pick xs[j]).has=false:=by rw[<-hqs.1];simpa using hc2
    refine rn 3 ?_;exact Ha ⟨ac,A1,c1,sk,A2,c2,si,vals,by rw[Hg xs ks j hjx,hac,kidF_no hqn,qQ,qQ],hjx,hK,hI2,hV.sub qB,Va,hF.drop 2⟩
   have hqh:(Ce L pick xs[j]).has=true:=by rw[<-hqs.1];simpa using hc2
   have hQv:=hqs.2.2.2.2;refine rn 9 ⟨λhc3=>?_,λhc3=>?_⟩
   ·
    have hjk:j<aL ks:=by have:=keys_six hop.nod hc3;omega
    refine Gb ⟨[16,18],λwq=>FR w0 [] [(b8,.cells (q.cells).toArray 38),(b7,.cells (z.cells).toArray 36),(b3,.cells #[.bool false,J 0,I [],aQ,aQ] 38),(b2,.cells #[J k,I t,.slice A (aL ks) c,.slice B (aL xs) e] 36),(b1,.cells #[.slice LA (aL L) lc,.slice PA (aL pick) pc] 118)] wq,[11,12]⟩ (bQ [0,1,2,3,4,5,6,9,10,11,12]<|.alt 7 (.alt 8 (.free 15<|cQ [13,14,16]<|.free 17<|.act 18 .nil)<|.act 13<|.act 8<|.free 15<|.act 14<|.act 16<|.free 17<|.act 18 .nil)<|cQ [13,7,8]<|.free 15<|.act 14<|.act 16<|.free 17<|.act 18 .nil) hF ?_;intro w hF hE;have hV:=hV.ext hE;have hQ:=hQ.ext hE;refine⟨λwq=>FR w0 [] [(b8,.cells (q.cells).toArray 38),(b7,.cells (z.cells).toArray 36),(b6,.cells #[J k,I t,.slice A1 (aL ac.1) c1,.slice A2 (aL ac.2) c2] 36),(b3,.cells #[.bool false,J 0,I [],aQ,aQ] 38),(b2,.cells #[J k,I t,.slice A (aL ks) c,.slice B (aL xs) e] 36),(b1,.cells #[.slice LA (aL L) lc,.slice PA (aL pick) pc] 118)] wq,hF.mid 0 6,?_⟩;refine rn 5 ?_;obtain⟨ad1,hA1,hk1,hx1⟩:=hKs.str_elem (i:=j) hjk;refine Ga O (v:=.pointer<|some<|ad1.add<|j*1) (λw hC=>Ca (i:=(j:Int)) Ii hA1)<|Ga O (v:=I<|ks[j]) (λw hC=>Xa sZ<|hC.cell0 hk1) ?_;refine rn 3 ?_;refine Wl O (v:=.agg (q.v.cells).toArray) (λw hC=>Ma (l:=q.v.cells) qZ uZ O O<|hC.part 0 1 O O) (λw hC=>Ma (l:=q.v.cells) qZ uZ O O<|hC.part 0 1 O O) ?_
    repeat' first
     |refine R7 ?_ ?_|refine Bs 7<|rn 1 ?_;intro b302 w hb302 hF hE;have hV:=hV.alloc hE hb302;have hQ:=hQ.alloc hE hb302|refine Bs 8<|Uv hK (len':=aL (ac.1++[ks[j]])) (ys:=((ac.1++[ks[j]]).map λs=>Value.string<|bs s)) Da Da ?_;intro A303 c303 k_303 w hS303_k hF hE hnew;have hsub:∀x∈(sk).map (·.1),x∈ids sk:=λ_ h=>h;have hV:=hV.grow hE hnew (λx hx=>by have:=hsub x hx;simp[this]);have hQ:=hQ.grow hE hnew (λx hx=>by have:=hsub x hx;simp[this]);clear hsub|refine Bs 13<|rn 1 ?_;intro b304 w hb304 hF hE;have hV:=hV.alloc hE hb304;have hQ:=hQ.alloc hE hb304|refine Bs 14<|Uv hI2 (len':=aL (ac.2++[(Ce L pick xs[j]).val])) (ys:=vals++q.v.cells) Da (O) ?_;intro A305 c305 i_305 w hS305_i hF hE hnew;have hsub:∀x∈(si).map (·.1),x∈ids si:=λ_ h=>h;have hV:=hV.grow hE hnew (λx hx=>by have:=hsub x hx;simp[this]);have hQ:=hQ.grow hE hnew (λx hx=>by have:=hsub x hx;simp[this]);clear hsub|refine Bs 16<|rn 1 ?_;intro w hF hE;have hV:=hV.store hE Da;have hQ:=hQ.store hE Da|refine Bs 18<|rn 1 ?_;intro w hF hE;have hV:=hV.store hE Da;have hQ:=hQ.store hE Da|refine rn 3 ?_;exact Ha ⟨(ac.1++[ks[j]],ac.2++[(Ce L pick xs[j]).val]),A303,c303,k_303,A305,c305,i_305,vals++q.v.cells,(by rw[Hg xs ks j hjx,hac,PZ hqh qW,show ks.getD j []=ks[j] by simp[List.getD,hjk]]),hjx,hS303_k,hS305_i,jG,Va,hF.drop 4⟩|refine rn 1 ?_
   refine rn 6 ⟨λhg8=>?_,λhg8=>?_⟩
   ·
    obtain⟨i1,hi1,hh1⟩:=hkid Aa;obtain⟨ad1,cq1,hAd1,hcq1,hcf1⟩:=hL.cf_elem hi1;have hcl1:=hcf1.k;rw[hh1];refine rn 3<|Ba (v:=.pointer<|some<|ad1.add<|i1*17) (Ca (i:=(i1:Int)) Ex hAd1)<|Ba (v:=.pointer<|some<|(ad1.add<|i1*17).add 1) (Oa (a:=ad1.add<|i1*17) D4)<|Ba (v:=J cq1.k) (Xa pZ<|hF.cell0<|hcq1 1 Bf) ?_;refine rn 6 ⟨λhc4=>?_,λhc4=>?_⟩
    ·
     have hqm:=(Dd hQv).2.2.2.1;obtain⟨eG,hrG,hGl_,hGc⟩:=((Dd hQv).2.2.2.2.2).slice_open (λd hd=>by rw[Jc]at hd;obtain⟨u,_,rfl⟩:=nQ.1 hd;exact Bb u);have hRG:RX w0 _ _ _ _:=hrG;have h5:0<=Ki xs[j]/\(L.getD (Ki xs[j]).toNat OA).cls=5:=by rw[hzk,hh1];exact⟨Aa,by rw[ND hi1];omega⟩
     have hil:=(VH hLs pick k [] xs[j]).1;rw[UH hqh qW h5]at hil;simp only at hil;refine rn 6 ?_;refine o_appN [_,_,_,_,_,_] [sk,si] 1 (news:=eG) (len':=aL (ac.2++(Ce L pick xs[j]).val.items)) (ys:=vals++eG) E2 hF hI2 rfl rfl (hGl_) (λhk=>by obtain⟨ad,hA,hc⟩:=hGc hk;exact⟨ad,hA,Kc hc⟩) (Ig hrG.one_) qN (by rw[dQ,<-hqm]) (rfl) Aa ?_;intro A9 c9 i_9 w hS9_i hF hE hnew;have hsub:∀x∈(si).map (·.1),x∈ids si:=λ_ h=>h;have hV:=hV.grow hE hnew (λx hx=>by have:=hsub x hx;simp[this]);have hQ:=hQ.grow hE hnew (λx hx=>by have:=hsub x hx;simp[this]);have hRG:=hRG.grow hE hnew (λx hx=>by have:=hsub x hx;simp[this]);clear hsub;refine rn 2 ?_;intro w hF hE;have hV:=hV.store hE Da;have hQ:=hQ.store hE Da;have hRG:=hRG.store hE Da;refine rn 3 ?_;exact Ha ⟨(ac.1,ac.2++(Ce L pick xs[j]).val.items),A1,c1,sk,A9,c9,i_9,vals++eG,by rw[Hg xs ks j hjx,hac,UH hqh qW h5,qQ],hjx,hK,hS9_i,by rw[jQ,<-Jc (Ce L pick xs[j]).val.items];exact (hV.append hRG).sub qB,Va,hF.drop 2⟩
    have h5n:¬(0<=Ki xs[j]/\(L.getD (Ki xs[j]).toNat OA).cls=5):=by
      rintro⟨ha,hb⟩
      first
      | (rw[hzk]at ha;omega)
      | (rw[hzk,hh1,ND hi1]at hb;omega)
    refine rn 6 ?_;intro b14 w hb14 hF hE;have hV:=hV.alloc hE hb14;have hQ:=hQ.alloc hE hb14;refine PK hI2 (len':=aL (ac.2++[(Ce L pick xs[j]).val])) (ys:=vals++q.v.cells) Da (O) ?_;intro A10 c10 i_10 w hS10_i hF hE hnew;have hsub:∀x∈(si).map (·.1),x∈ids si:=λ_ h=>h;have hV:=hV.grow hE hnew (λx hx=>by have:=hsub x hx;simp[this]);have hQ:=hQ.grow hE hnew (λx hx=>by have:=hsub x hx;simp[this]);clear hsub;refine rn 2 ?_;intro w hF hE;have hV:=hV.store hE Da;have hQ:=hQ.store hE Da;refine rn 3 ?_;exact Ha ⟨(ac.1,ac.2++[(Ce L pick xs[j]).val]),A1,c1,sk,A10,c10,i_10,vals++q.v.cells,by rw[Hg xs ks j hjx,hac,LF hqh qW h5n,qQ],hjx,hK,hS10_i,jG,Va,hF.drop 3⟩
   refine rn 12 ?_;have h5n:¬(0<=Ki xs[j]/\(L.getD (Ki xs[j]).toNat OA).cls=5):=by
     rintro⟨ha,hb⟩
     first
     | (rw[hzk]at ha;omega)
     | (rw[hzk,hh1,ND hi1]at hb;omega)
   refine rn 6 ?_;intro b15 w hb15 hF hE;have hV:=hV.alloc hE hb15;have hQ:=hQ.alloc hE hb15;refine PK hI2 (len':=aL (ac.2++[(Ce L pick xs[j]).val])) (ys:=vals++q.v.cells) Da (O) ?_;intro A11 c11 i_11 w hS11_i hF hE hnew;have hsub:∀x∈(si).map (·.1),x∈ids si:=λ_ h=>h;have hV:=hV.grow hE hnew (λx hx=>by have:=hsub x hx;simp[this]);have hQ:=hQ.grow hE hnew (λx hx=>by have:=hsub x hx;simp[this]);clear hsub;refine rn 2 ?_;intro w hF hE;have hV:=hV.store hE Da;have hQ:=hQ.store hE Da;refine rn 3 ?_;exact Ha ⟨(ac.1,ac.2++[(Ce L pick xs[j]).val]),A1,c1,sk,A11,c11,i_11,vals++q.v.cells,by rw[Hg xs ks j hjx,hac,LF hqh qW h5n,qQ],hjx,hK,hS11_i,jG,Va,hF.drop 3⟩
  rintro σ w ⟨ac3,A3,c3,sk3,A4,c4,si3,vals3,hac3,hjx,hK3,hI3,hV3,hzz,hF⟩;refine Aj hzz 2<|Zb (Wd<|((j+1:Nat):Int)) ?_;refine rn 2<|Ha ⟨_,?_,j+1,ac3,A3,c3,sk3,A4,c4,si3,vals3,O,Aa,hac3,hK3,hI3,hV3,Va,hF⟩;omega
 refine rn 5<|Ia (has_c ⟨k,t,A1,aL ac.1,c1,A2,aL ac.2,c2⟩ _) ?_;intro w hF hE;have hV:=hV.ext hE;refine rn 1 ?_;intro w hF hE;have hV:=hV.store hE Da;refine rn 3 ?_;obtain rfl:j=aL xs:=Aa
 have e0:Ce L pick (.node k t ks xs)=⟨true,.node k t ac.1 ac.2⟩:=by rw[Ce,tQ (by rw[T4];exact hc0),<-hac,List.take_length]
 rw[e0];have hkl:∀s∈ac.1,aL s<=9223372036854775807:=λs hs=>by rw[<-hac]at hs;rcases Xs _ (gQ _) s hs with h|h;(have:=hkm s h;omega);(rw[h];simp)
 refine⟨⟨true,k,t,A1,aL ac.1,c1,A2,aL ac.2,c2⟩,O,B3 (s:=⟨true,.node k t ac.1 ac.2⟩) (x:=⟨k,t,A1,aL ac.1,c1,A2,aL ac.2,c2⟩)<|Rep.tree_mk ⟨Aa,Aa⟩ Aa ?_ ?_,hF.same⟩
 ·exact hK.rep (pre:=[_,_,_,_]) hF (RX.strs (ids:=([b6,b3,b2,b1]++(ids sk++ids si))) hkl) Da
 rw[Jc];exact hI2.rep (pre:=[_,_,_,_]++sk) (post:=[]) (aS hF) hV Da
def chFill_c(L:List Cf)(pick:List Int)(hlp:aL L=aL pick)(hLs:∀c∈L,CfS c)(x:Tree):FillC L pick x:=Tree.ind (VS L pick hlp hLs) x
theorem kid_size(hL:∀c∈L,CfS c)(pick:List Int)(k:Int)(key:Str)(x:Tree):Ra (Xq L k key (Ki x) (Ce L pick x)).2<=La (Ce L pick x).val:=by grind [Xq,Ra,Ck,Ce]
theorem kid_max(pick:List Int)(k:Int)(key:Str)(x:Tree)(h:Ob (Ce L pick x).val<=M):∀y∈(Xq L k key (Ki x) (Ce L pick x)).2,Ob y<=M:=by grind [Xq,Kn]
def MX(hL:∀c∈L,CfS c)(pick:List Int)(x:Tree):Ob x<=16777216->La (Ce L pick x).val<=257*La x/\Ob (Ce L pick x).val<=16777216 :=
  Tree.ind (Q:=λx=>Ob x<=16777216->La (Ce L pick x).val<=257*La x/\Ob (Ce L pick x).val<=16777216) (λk t ks xs ih hm=>by
    by_cases h0:0<=Ki (.node k t ks xs)
    ·rw[ED h0]
     have:=E5 hL pick<|Ki<|.node k t ks xs;have:=Wt<|.node k t ks xs;exact⟨Aa,Aa⟩
    rw[Ce, tQ h0];have key:∀j,j<=aL xs->Ra (Ng L pick k ks<|xs.take j).2<=257*Ra (xs.take j)/\∀y∈(Ng L pick k ks<|xs.take j).2,Ob y<=16777216:=by
      intro j
      induction j with
      | zero=>intro _;simp[Ng,Ra]
      | succ j ihj =>
        intro hj;obtain⟨h1,h2⟩:=ihj Aa;have hx:xs[j]' Aa∈xs:=eQ _;obtain⟨h3,h4⟩:=ih _ hx<|Kn (x:=.node k t ks xs) hm _ hx;rw[Hg xs ks j Aa];have h5:=kid_size hL pick k (ks.getD j [])<|xs[j]' Aa;have h6:Ra (xs.take<|j+1)=Ra (xs.take j)+La (xs[j]' Aa):=by rw[iQ Aa,Dj];simp[Ra]
        refine⟨by rw[Dj,h6];omega,λy hy=>?_⟩;rcases mQ.1 hy with hy|hy
        ·exact h2 y hy
        exact kid_max pick k _ _ h4 y hy
    obtain⟨h1,h2⟩:=key (aL xs)<|gQ _;rw[List.take_length]at h1 h2;refine⟨by rw[La,La];omega,?_⟩;have h7:=No h2;have h8:Sg (Ng L pick k ks xs).1<=16777216:=At λs hs=>by
      have hs':=hs;rw[<-List.take_length (l:=xs)]at hs';rcases Xs (aL xs) (gQ _) s hs' with h|h
      ·exact QJ (x:=.node k t ks xs) hm s h
      rw[h];simp
    have h9:=N5 (x:=.node k t ks xs) hm;simp only[Tree.text]at h9;rw[Ob];omega) x
def B8(h:¬(De v=true/\Yp v L pick=true)):Qi v L pick=(zeroT,1):=tQ h
def Et(h:De v=true/\Yp v L pick=true):Qi v L pick=if (Ce L pick v).has=true then (if Id (Ce L pick v).val=true then ((Ce L pick v).val,0) else (zeroT,1)) else (zeroT,8):=uQ h
def JW(h:De v=true):Uc nodeB v=true:=(Bool.and_eq_true_iff.1 h).2
theorem IY(h:Yp v L pick=true):aL L=aL pick:=by grind [Yp]
theorem TH(L:List Cf)(pick:List Int)(LA PA:Option Addr)(lc pc:Nat)(SL SP:Nat->Prop)(t:Tree)(x:Tv)(SX:Nat->Prop)(w0:World)(hL:Rep SL w0 (.slice (L.map ZJ)) [.slice LA (aL L) lc])(hP:Rep SP w0 (.slice (pick.map Lg)) [.slice PA (aL pick) pc])(hLs:∀c∈L,CfS c)(hX:Rep SX w0 (Na t) x.cells)(hol:HolIn (aL L) t)(hsz:La t<=512)(hmx:Ob t<=16777216)(hG:Gl w0):Calls prog 67 #[.agg (x.cells).toArray,.slice LA (aL L) lc,.slice PA (aL pick) pc] w0 (Za λv w'=>∃q:Tv,v=.tuple #[.agg q.cells.toArray,J (Qi t L pick).2]/\Rep (Btw w0 w') w' (Na (Qi t L pick).1) q.cells/\Same [] w0 w'):=by
 refine Ea func67 ntmps67 ?_;intro hF;refine rn 3 ?_;rintro b1 w hb1 hF -;refine rn 1 ?_;rintro b2 w hb2 hF -;refine rn 7<|Ba (w':=w) (v:=.agg #[.slice LA (aL L) lc,.slice PA (aL pick) pc]) Ua ?_;refine rn 1 ?_;rintro b3 w hb3 hF -;refine rn 6<|Ia (L5 t Aa _ x.cells (hF.rep hX) (Sj _ Aa)<|hG.ext hF.same) ?_;rintro w hF -;refine rn 3 ⟨λhg0=>?_,λhg0=>?_⟩
 ·
  refine rn 10<|Ba (w':=w) (v:=.agg #[J 0,I [],aQ,aQ]) Ua ?_;refine rn 1 ?_;rintro w hF -;refine rn 4 ?_;rw[B8 qX];exact⟨Z8,O,Sk _ _,hF.same⟩
 refine rn 2<|Ia (goodC_c L pick LA PA lc pc _ _ t x _ _ (hF.rep hL) (hF.rep hP) (λc hc=>(hLs c hc).ok) (hF.rep hX) Aa<|hG.ext hF.same) ?_;rintro w hF -;refine rn 5 ⟨λhc0=>?_,λhc0=>?_⟩
 ·
  refine rn 2<|Ba (w':=w) (v:=.agg #[J 0,I [],aQ,aQ]) Ua ?_;refine rn 1 ?_;rintro w hF -;refine rn 4 ?_;rw[B8 qX];exact⟨Z8,O,Sk _ _,hF.same⟩
 refine rn 6 ?_;have hgo:De t=true/\Yp t L pick=true:=qX
 refine Fc (chFill_c L pick (IY hgo.2) hLs t LA PA lc pc _ _ _ _ x.cells (hF.rep hL) (hF.rep hP) (hF.rep hX) ⟨hol,JW hgo.1,hsz,hmx⟩<|hG.ext hF.same) ?_;rintro _ w ⟨y,rfl,hRt,hE⟩;have hY:=RX.made (ids:=[b3,b2,b1]) hF.same.size (λx hx=>hF.lt_ids (aS hx)) hRt;have hyp:=Lc hRt;have hF:=hF.ext hE;clear hE hRt;have hfb:=MX hLs pick t hmx;refine rn 1 ?_;intro b4 w hb4 hF hE;have hY:=hY.alloc hE hb4;refine rn 13 ⟨λhc1=>?_,λhc1=>?_⟩
 ·
  refine rn 2<|Ba (w':=w) (v:=.agg #[J 0,I [],aQ,aQ]) Ua ?_;refine rn 1 ?_;intro w hF hE;have hY:=hY.store hE qK;refine rn 4 ?_;rw[show Qi t L pick=(zeroT,8) by rw[Et hgo,tQ (by rw[<-hyp.1];simp_all)]];exact⟨Z8,O,Sk _ _,hF.same⟩
 refine rn 4<|Ia (C4 (Ce L pick t).val Aa _ _ y.v.cells (Lc hY.rep).2.2.2.2 (Sj _ Aa)<|hG.ext hF.same) ?_;intro w hF hE;have hY:=hY.ext hE;refine rn 5 ⟨λhc2=>?_,λhc2=>?_⟩
 ·
  refine rn 2<|Ba (w':=w) (v:=.agg #[J 0,I [],aQ,aQ]) Ua ?_;refine rn 1 ?_;intro w hF hE;have hY:=hY.store hE qK;refine rn 4 ?_;rw[show Qi t L pick=(zeroT,1) by rw[Et hgo,uQ (by rw[<-hyp.1];simp_all),tQ qX]];exact⟨Z8,O,Sk _ _,hF.same⟩
 refine rn 8 ?_;intro w hF hE;have hY:=hY.store hE qK;refine rn 4 ?_;rw[show Qi t L pick=((Ce L pick t).val,0) by rw[Et hgo,uQ (by rw[<-hyp.1];simp_all),uQ qX]];have hYd:=hY.done;exact⟨y.v,O,(Lc hYd).2.2.2.2,hF.same⟩
abbrev zCf:List Value:=[aQ,J 0,.bool (false),J 0,I [],aQ,aQ,.bool (false),J 0,I [],aQ,aQ,.bool (false),J 0,I [],aQ,aQ]
def D1(k:Int)(s:Sd):Cf:=⟨[],k,s,noS,noS⟩
abbrev setV(k:Int)(y:Sv):List Value:=[aQ,J k,.bool y.h,J y.v.k,I y.v.t,.slice y.v.A y.v.n y.v.c,.slice y.v.B y.v.m y.v.e,.bool (false),J 0,I [],aQ,aQ,.bool (false),J 0,I [],aQ,aQ]
def setC_rep{y:Sv}(hk:-1000<=k/\k<=1000)(h:Rep S w (Ad s) y.cells):Rep S w (ZJ (D1 k s)) (setV k y):=by
  unfold ZJ D1;refine Rep.agg_mk<|RepL.cons_mk (c1:=[aQ]) (Rep.nil_slice 0 Aa none)<|RepL.cons_mk (c1:=[J k]) (Rep.lit_mk<|okI (z:=k) Aa Aa)<|RepL.cons_mk (c1:=y.cells) h<|RepL.cons_mk (c1:=[.bool false,J 0,I [],aQ,aQ]) Ul<|RepL.cons_mk (c1:=[.bool false,J 0,I [],aQ,aQ]) (c2:=[]) Ul RepL.nil_mk
def H8:RepL S w ([(0:Int)].map Lg) [J 0]:=RepL.cons_mk (c1:=[J 0]) (c2:=[]) (Vl Ja Ja) RepL.nil_mk
def open_yes{v:List Value}(h:if f=true then n=0/\v=[] else n=1/\v=[J 0])(hn:(0:Int)<(n:Int)):f=false/\n=1/\v=[J 0]:=by
  cases f with
  | true=>rw[uQ rfl]at h;omega
  | false=>rw[tQ Ja]at h;exact⟨rfl,h⟩
def open_no{v:List Value}(h:if f=true then n=0/\v=[] else n=1/\v=[J 0])(hn:¬(0:Int)<(n:Int)):f=true:=by
  cases f with
  | true=>rfl
  | false=>rw[tQ Ja]at h;omega
def by_c(k:Int)(w0:World):Calls prog 68 #[J k] w0 (Za λv w'=>∃b:Nat,v=.func (.func 103) #[] #[V b]/\w'.heap[b]? = some (.cells #[J k] 3)/\w0.heap.size<=b/\Same [] w0 w'):=by
 refine Ea func68 ntmps68 ?_;intro hF;refine rn 3 ?_;rintro b1 w hb1 hF -;refine rn 5<|Ba (v:=.func (.func 103) #[] #[V b1]) Pi ?_;refine rn 4 ?_;exact⟨b1,O,hF.heap (i:=0) O,hF.ge (i:=0) O,hF.same⟩
def by1_c(q:Cv)(b:Nat)(w0:World)(hb:w0.heap[b]? = some (.cells #[J 1] 3)):Calls prog 103 #[.agg q.cells.toArray,V b] w0 (Za λv w'=>v=.tuple #[.agg #[.bool (false),J 0,I [],aQ,aQ],.bool false]/\Same [] w0 w'):=by
 have hb1c:w0.cell? ⟨b,0,none⟩=some (J 1):=by rw[Db hb];rfl
 refine Ea func103 ntmps103 ?_;intro hF;refine rn 3 ?_;rintro b1 w hb1 hF -;refine rn 1 ?_;rintro b2 w hb2 hF -;refine rn 6<|Ba (v:=J 1) (Xa pZ<|hF.cell0 hb1c) ?_;refine rn 9<|Zo (by rfl) ?_;refine rn 6<|Zo (by rfl) ?_;refine rn 6<|Zo (by rfl) ?_;refine rn 6<|Zo (by rfl) ?_;refine rn 7 ?_;rintro w hF -;refine rn 4 ?_;exact⟨O,hF.same⟩
def ZG(vT:Tree)(xv:Tv)(c:Cf)(LA:Option Addr)(lc:Nat)(t:List Mm)(A0:Option Addr)(c0:Nat)(S SL SV:Nat->Prop)(w0:World)(hV:Rep SV w0 (Na vT) xv.cells)(hL:Rep SL w0 (.slice ([c].map ZJ)) [.slice LA 1 lc])(hX:Rep S w0 (Jd t) [.slice A0 (aL t) c0])(hm:∀m∈t,MmOk m)(htl:aL t<=1000000)(hP:CfP c)(hcS:CfS c)(hcS2:CfS (D1 c.cls (Gj (Ei t c).1)))(hHol:HolIn 1 vT)(hsz:La vT<=512)(hmx:Ob vT<=16777216)(hR:Tf t=true)(hch:(Qi vT [c] [0]).2=0)(hG:Gl w0):Calls prog 31 #[.agg xv.cells.toArray,.slice LA 1 lc,.slice A0 (aL t) c0,J 1] w0 (Za λv w'=>((Ei t c).2=false/\∃AO cO,v=.tuple #[.agg #[J 0,I [],aQ,aQ],.slice AO 1 cO,J 10]/\Rep (Btw w0 w') w' (.slice ([(0:Int)].map Lg)) [.slice AO 1 cO]/\Same [] w0 w')\/((Ei t c).2=true/\∃q:Tv,v=.tuple #[.agg q.cells.toArray,aQ,J (Qi vT [D1 c.cls (Gj (Ei t c).1)] [0]).2]/\Rep (Btw w0 w') w' (Na (Qi vT [D1 c.cls (Gj (Ei t c).1)] [0]).1) q.cells/\Same [] w0 w')):=by
 refine Yl func31 O ntmps31 Bf (args_4 _ _ _ _) ?_;have hF:=FR.start w0 [];refine rn 2<|o_bg hF O ?_;rintro b1 w hb1 hF -;refine Wm (cs:=#[J 0,I [],aQ,aQ]) hF kX O ?_;rintro b2 w hb2 hF -;refine rn 8<|Wr (v:=λb=>W b 1 1) (o:=.cells (Zi [J 0] 1).toArray 3) hF (MD (z:=J 0) (zl:=[J 0]) (N:=1) el_58 Ua O O O Aa Ja) ?_;intro b3 w hb3 hF hE;clear hE;have hF:FR w0 [] [(b3,.cells #[J 0] 3),(b2,.cells #[J 0,I [],aQ,aQ] 36),(b1,.cells (xv.cells).toArray 36)] w:=hF;refine rn 5<|RW (ylg qZ uZ hF.F 2) ?_;refine rn 2 ?_;refine Xb (TH [c] [0] LA (some ⟨b3,0,none⟩) lc 1 _ _ vT xv _ _ (hF.rep hL) (hF.rowS (S:=λ_=>False) 0 O (n:=1) H8 O Aa) (λx hx=>by rw[pQ.1 hx];exact hcS) (hF.rep hV) hHol hsz hmx<|hG.ext hF.same) (Du en_67 O O O O) ?_;rw[hch];rintro _ w ⟨qa,rfl,-,hE⟩;have hF:=hF.ext hE;refine rn 3<|X2 hF kX uZ O ?_;rintro b4 w hb4 hF -;refine rn 7<|Ba (v:=.bool false) (Cc El Ja) ?_;refine rn 2<|Xb (Gx t A0 c0 S _ (hF.rep hX) hm<|hG.ext hF.same) (Df en_14 O O) ?_;rw[hR];rintro _ w ⟨rfl,hE⟩;have hF:=hF.ext hE;refine rn 4<|Ba (v:=.bool false) (Cc Uy Ja) ?_;refine rn 3<|Ba (v:=.bool false) (Cc H3 Ja) ?_;refine rn 10<|Wr (v:=λb=>W b 1 1) (o:=.cells (Zi zCf 1).toArray 40) hF (MD (z:=.agg zCf.toArray) (zl:=zCf) (N:=1) el_62 Ua O O O Aa Ja) ?_;intro bs_ w hbs_ hF hE;clear hE;have hF:FR w0 [] [(bs_,(.cells zCf.toArray 40)),(b4,.cells (qa.cells).toArray 36),(b3,.cells #[J 0] 3),(b2,.cells #[J 0,I [],aQ,aQ] 36),(b1,.cells (xv.cells).toArray 36)] w:=hF;refine rn 17 ?_;refine Sa (λμ σ w=>∃(i:Nat),∃(y:Sv),∃(AO:Option Addr),∃(nO:Nat),∃(cO:Nat),∃(so:List (Nat × Obj)),∃(vO:List Value),∃(cc:List Value),μ=2-i/\(i<=1)/\(i=0->cc=zCf/\nO=0/\vO=[])/\(i=1->cc=setV c.cls y/\(if (Ei t c).2=true then nO=0/\vO=[] else nO=1/\vO=[J 0]))/\(SlB 3 1 AO nO cO vO so)/\(i=1->(Ei t c).2=true->RX w0 ([bs_]++ids so) w [Ad<|Gj (Ei t c).1] y.cells)/\AllEq σ [(1,.slice LA 1 lc),(2,.slice A0 (aL t) c0),(3,J 1),(4,V b1),(8,V b2),(11,W b3 1 1),(14,W bs_ 1 1),(15,.slice AO nO cO),(50,J 1),(51,J<|(i:Int))]/\FR w0 [] ([(bs_,(.cells cc.toArray 40)),(b4,.cells (qa.cells).toArray 36),(b3,.cells #[J 0] 3),(b2,.cells #[J 0,I [],aQ,aQ] 36),(b1,.cells (xv.cells).toArray 36)]++(so++[])) w) _ ⟨0,⟨false,Z8⟩,none,0,0,[],[],zCf,O,dZ _,λ_=>⟨O,O,O⟩,λh=>absurd h Ja,SlB.nil _ _,λh=>absurd h Ja,⟨O,O,O,O,O,O,O,O,O,O,trivial⟩,hF⟩ ?_
 rintro μ σ w ⟨i,y,AO,nO,cO,so,vO,cc,rfl,hi,hz0,hz1,hS,hY,hzq,hF⟩;refine Cg.slots hzq ?_;clear hzq;intro σ;refine rn 6<|G5 O (λhc1=>?_) λhc1=>?_;refine rn 5 ?_;obtain rfl:i=0:=Aa
 obtain⟨rfl,rfl,rfl⟩:=hz0 rfl;have hF:FR w0 [] ([(bs_,.cells #[aQ,J 0,.bool false,J 0,I [],aQ,aQ,.bool false,J 0,I [],aQ,aQ,.bool false,J 0,I [],aQ,aQ] 40),(b4,.cells (qa.cells).toArray 36),(b3,.cells #[J 0] 3),(b2,.cells #[J 0,I [],aQ,aQ] 36),(b1,.cells (xv.cells).toArray 36)]++(so++[])) w:=hF;refine rn 10 ?_;obtain⟨ad0,q0,hA0,hk0,ho0⟩:=hL.cf_elem (i:=0) Da;refine Ba (v:=.pointer<|some<|ad0.add<|0*17) (Ca (i:=((0:Nat):Int)) Ex hA0)<|Ba (v:=.agg (q0.cells).toArray) (Ma (l:=q0.cells) isAgg40 sizeOf40 O O<|hF.cells0 hk0) ?_;refine Xb (find_c t A0 c0 c q0 S SL _ (hF.rep hX) hm htl ⟨ho0.n,ho0.k,hF.rep ho0.p,hF.rep ho0.x,hF.rep ho0.y,hF.rep ho0.z⟩ hP<|hG.ext hF.same) (Zd en_24 O O O) ?_;rintro _ w ⟨y,rfl,hRt,hE⟩;have hY:=RX.made (ids:=([bs_]++ids so)) hF.same.size (λx hx=>(K6 (pre:=[_,_,_,_,_]) hF (λx hx=>(mQ.1 hx).elim (λh=>.inl (by rw[pQ.1 h];simp[ids])) .inr) x hx).2) hRt;have hF:=hF.ext hE;clear hE hRt;refine rn 3<|X2 hF zeroValue38 vZ O ?_;intro b5 w hb5 hF hE;have hY:=hY.ext hE;refine rn 10<|c_sb O O (λhc2=>?_) λhc2=>?_;have hfo:(Ei t c).2=false:=aS hc2
 refine Gb (.of []) (bQ [0,2,3,4,5]<|.act 1<|.act 6<|bQ [7,8,9]<|.act 10<|.free 11 .nil) hF ?_;intro w hF hE;have hY:=hY.ext hE;refine⟨λwq=>FR w0 [] [(bs_,.cells #[aQ,J 0,.bool false,J 0,I [],aQ,aQ,.bool false,J 0,I [],aQ,aQ,.bool false,J 0,I [],aQ,aQ] 40),(b4,.cells (qa.cells).toArray 36),(b3,.cells #[J 0] 3),(b2,.cells #[J 0,I [],aQ,aQ] 36),(b1,.cells (xv.cells).toArray 36)] wq,hF.mid 1 5,?_⟩;refine rn 3 ?_;obtain⟨ad1,q1,hA1,hk1,ho1⟩:=hL.cf_elem (i:=0) Da;refine Ga O (v:=.pointer<|some<|ad1.add<|0*17) (λw hC=>Ca (i:=((0:Nat):Int)) Ex hA1)<|Ga O (v:=.agg (q1.cells).toArray) (λw hC=>Ma (l:=q1.cells) isAgg40 sizeOf40 O O<|hC.cells0 hk1) ?_;refine Nr O (by_c 1 _) (Df en_68 O O) ?_;rintro _ w ⟨bb,rfl,hbb,hgb,hE⟩;have hF:=hF.takeB hE hbb hgb;clear hE hbb hgb hY;refine⟨hF.mid 2 5,?_⟩;refine Nr O (by1_c q1 bb _<|hF.heap (i:=0) O) (Wn O en_103 O O) ?_;rintro _ w ⟨rfl,hE⟩;have hF:=hF.ext hE;refine⟨hF.mid 2 5,?_⟩;refine rn 3<|FZ O hF vZ O O sI1 ?_;rintro w hF -;refine⟨hF.mid 2 5,?_⟩;refine rn 10<|c_sb O O (λhc3=>?_) λhc3=>?_;refine rn 3<|X5 1 hF (Md (cs:=#[J<|((0:Nat):Int)]) underlying58 sizeOf3 zeroValue3 Ja Ja Ua) ?_;rintro b6 w hb6 hF -;refine I6 (news:=[J<|((0:Nat):Int)]) (len':=1) (ys:=[J 0]) el_58 hF hS O O (O) (λ_=>⟨_,O,Kc<|hF.cellsAll 0 O⟩) zB qN (O) (O) Aa ?_;intro A2 c2 so_2 w hS2_so hF hE hnew;refine rn 3<|Gb (.of [10]) (bQ [0,1,2,3,4,5,6,7,8,9]<|.act 10 .nil) hF ?_;rintro w hF -;refine⟨λwq=>FR w0 [] [(b6,.cells #[J<|((0:Nat):Int)] 3),(bb,.cells #[J 1] 3),(b5,.cells #[.bool false,J 0,I [],aQ,aQ] 38),(bs_,.cells #[aQ,J 0,.bool false,J 0,I [],aQ,aQ,.bool false,J 0,I [],aQ,aQ,.bool false,J 0,I [],aQ,aQ] 40),(b4,.cells (qa.cells).toArray 36),(b3,.cells #[J 0] 3),(b2,.cells #[J 0,I [],aQ,aQ] 36),(b1,.cells (xv.cells).toArray 36)] wq,hF.mid 0 8,?_⟩
 refine rn 4 ?_;obtain⟨ad3,q3,hA3,hk3,ho3⟩:=hL.cf_elem (i:=0) Da;refine Ga O (v:=.pointer<|some<|ad3.add<|0*17) (λw hC=>Ca (i:=((0:Nat):Int)) Ex hA3)<|Ga O (v:=.pointer<|some<|(ad3.add<|0*17).add 1) (λw hC=>Oa (a:=ad3.add<|0*17) D4)<|Ga O (v:=J q3.k) (λw hC=>Xa pZ<|hC.cell0<|hk3 1 Bf)<|f_Y O (ylg rZ vZ C0 2) ?_;refine Ga O (v:=.agg #[aQ,J q3.k,.bool false,J 0,I [],aQ,aQ,.bool false,J 0,I [],aQ,aQ,.bool false,J 0,I [],aQ,aQ]) (λw hC=>by kernel_rfl)<|Ga O (v:=V bs_) (λw hC=>Kb (i:=((0:Nat):Int)) 0 Ex O O Ja Ja O) ?_;refine z_sg O hF sizeOf40 O O sI3 ?_;rintro w hF -;refine rn 4<|Zb (Wd<|((1:Nat):Int)) ?_;refine rn 2 ?_;refine Ha ⟨_,?_,1,⟨false,Z8⟩,A2,1,c2,so_2,[J 0],setV q3.k ⟨false,Z8⟩,O,gQ _,λh=>absurd h Ja,(λ_=>⟨by rw[ho3.k];rfl,by rw[tQ (by rw[hfo];decide)];exact⟨O,O⟩⟩),hS2_so,(λ_ h=>by rw[hfo]at h;cases h),⟨O,O,O,O,O,O,O,O,O,O,trivial⟩,hF.drop 3⟩;omega;exact absurd hc3 Ja;have hfo:(Ei t c).2=true:=aS hc2
 refine rn 9<|c_sb O O (λhc3=>?_) λhc3=>?_;exact absurd hc3 (by rw[hfo];decide);refine rn 2<|Gb (.of [10]) (bQ [0,1,2,3,4,5,6,7,8,9]<|.act 10 .nil) hF ?_;intro w hF hE;have hY:=hY.ext hE;refine⟨λwq=>FR w0 [] [(b5,.cells (y.cells).toArray 38),(bs_,.cells #[aQ,J 0,.bool false,J 0,I [],aQ,aQ,.bool false,J 0,I [],aQ,aQ,.bool false,J 0,I [],aQ,aQ] 40),(b4,.cells (qa.cells).toArray 36),(b3,.cells #[J 0] 3),(b2,.cells #[J 0,I [],aQ,aQ] 36),(b1,.cells (xv.cells).toArray 36)] wq,hF.mid 0 6,?_⟩;refine rn 4 ?_;obtain⟨ad4,q4,hA4,hk4,ho4⟩:=hL.cf_elem (i:=0) Da;refine Ga O (v:=.pointer<|some<|ad4.add<|0*17) (λw hC=>Ca (i:=((0:Nat):Int)) Ex hA4)<|Ga O (v:=.pointer<|some<|(ad4.add<|0*17).add 1) (λw hC=>Oa (a:=ad4.add<|0*17) D4)<|Ga O (v:=J q4.k) (λw hC=>Xa pZ<|hC.cell0<|hk4 1 Bf)<|f_Y O (ylg rZ vZ C0 0) ?_;refine Ga O (v:=.agg #[aQ,J q4.k,.bool y.h,J y.v.k,I y.v.t,.slice y.v.A y.v.n y.v.c,.slice y.v.B y.v.m y.v.e,.bool false,J 0,I [],aQ,aQ,.bool false,J 0,I [],aQ,aQ]) (λw hC=>by kernel_rfl)<|Ga O (v:=V bs_) (λw hC=>Kb (i:=((0:Nat):Int)) 0 Ex O O Ja Ja O) ?_;refine z_sg O hF sizeOf40 O O sI1 ?_;intro w hF hE;have hY:=hY.store hE Da;refine rn 4<|Zb (Wd<|((1:Nat):Int)) ?_;refine rn 2 ?_;refine Ha ⟨_,?_,1,y,AO,0,cO,so,[],setV q4.k y,O,gQ _,λh=>absurd h Ja,(λ_=>⟨by rw[ho4.k];rfl,by rw[uQ hfo];exact⟨O,O⟩⟩),hS,λ_ _=>hY,⟨O,O,O,O,O,O,O,O,O,O,trivial⟩,hF.drop 1⟩;omega;refine rn 4 ?_;obtain rfl:i=1:=Aa
 obtain⟨rfl,hno⟩:=hz1 rfl;have hY:=hY rfl;have hF:FR w0 [] ([(bs_,(.cells (setV c.cls y).toArray 40)),(b4,.cells (qa.cells).toArray 36),(b3,.cells #[J 0] 3),(b2,.cells #[J 0,I [],aQ,aQ] 36),(b1,.cells (xv.cells).toArray 36)]++(so++[])) w:=hF;refine rn 6<|G5 O (λhc4=>?_) λhc4=>?_;obtain⟨hfd,rfl,rfl⟩:=open_yes hno hc4;refine rn 2<|Ba (w':=w) (v:=.agg #[J 0,I [],aQ,aQ]) Ua ?_;refine rn 1<|o_sg hF uZ O O sI3 ?_;rintro w hF -;refine rn 4<|Rf<|Yd<|Nc (Mi O (l:=[J 0,I [],aQ,aQ]) O qZ uZ O (hF.cellsAll 3 O) (v:=.slice AO 1 cO) O (y:=J 10) O) ?_;exact .inl ⟨hfd,AO,cO,rfl,(hS.repOf (λq hq=>by have ho:=hF.own q bD;obtain⟨cur,e⟩:=hS.typ1.2 q hq;exact⟨ho.1,ho.2.elim id (λh=>by cases h),Pa ho.1,_,_,by rw[<-e];exact ho.1⟩) H8 rfl),hF.same⟩;have hfd:=open_no hno hc4;refine rn 4<|RW (ylg qZ uZ hF.F 4) ?_;refine rn 2 ?_;refine Xb (TH [D1 c.cls<|Gj (Ei t c).1] [0] (some ⟨bs_,0,none⟩) (some ⟨b3,0,none⟩) 1 1 _ _ vT xv _ _ (hF.rowS (S:=λ_=>True) 0 O (n:=1) (ds:=[D1 c.cls<|Gj (Ei t c).1].map ZJ) (RepL.cons_mk (c2:=[]) (setC_rep (by have:=hcS.rig.2.2.2.2;omega) (hY hfd).rep.anyS) RepL.nil_mk) O Aa) (hF.rowS (S:=λ_=>False) 2 O (n:=1) H8 O Aa) (λx hx=>by rw[pQ.1 hx];exact hcS2) (hF.rep hV) hHol hsz hmx<|hG.ext hF.same) (Du en_67 O O O O) ?_;rintro _ w ⟨qr,rfl,hRt,hE⟩;have hT:=RX.made (ids:=[b2]) hF.same.size (λx hx=>by rw[pQ.1 hx];exact hF.lt (i:=3) rfl) hRt;clear hRt;have hF:=hF.ext hE;refine rn 3<|X2 hF kX uZ O ?_;intro b7 w hb7 hF hE;have hT:=hT.ext hE;refine rn 5<|RW (ylg qZ uZ hF.F 0) ?_;refine rn 1<|o_sg hF uZ O O sI4 ?_;intro w hF hE;have hT:=hT.store hE Da;refine rn 4<|Rf<|Yd<|Nc (Mi O (l:=qr.cells) O qZ uZ O (hF.cellsAll 4 O) (v:=aQ) O (y:=J<|(Qi vT [D1 c.cls<|Gj (Ei t c).1] [0]).2) O) ?_
 ·exact .inr ⟨hfd,qr,O,hT.done,hF.same⟩
abbrev nuS(i:UInt8):Tree:=.node 3 [i] [] []
def cS:Cf:=⟨[[97]],3,⟨true,nuS 49⟩,⟨true,nuS 50⟩,noS⟩
def s9:Sd:=⟨true,nuS 57⟩
def pS:Str:=[91,51,44,91,49,93,44,91,93,44,91,50,93,93]
def tS:List Mm:=[⟨pS,s9⟩]
def qQq:Str:=[91,91,34,91,51,44,91,49,93,44,91,93,44,91,50,93,93,34,44,91,57,93,93,93]
def hmT:Tree:=.node 6 [] [[97]] [HJ 0]
def BK:Tree:=.node 6 [] [[97]] [nuS 57]
def RI:Nj cS=(pS,true):=by kernel_rfl
def JT:Ti [] cS s9=(tS,0):=by kernel_rfl
def Y8:Ei tS cS=(s9,true):=by kernel_rfl
def AF:(Ei [] cS).2=false:=by kernel_rfl
def Mz:Gj (Ei tS cS).1=s9:=by kernel_rfl
def UL:Cm tS=(qQq,0):=by kernel_rfl
def DN:Ih qQq=(tS,true):=by kernel_rfl
def JH:Tf tS=true:=by kernel_rfl
def TD:Tf []=true:=by kernel_rfl
def EH:(Qi hmT [cS] [0]).2=0:=by kernel_rfl
def KT:Qi hmT [D1 3 s9] [0]=(BK,0):=by kernel_rfl
def Cz:CfS cS:=⟨⟨.inr ⟨rfl,Ua⟩,.inr ⟨rfl,Ua⟩,.inl rfl,λh=>absurd h Ja,Ja,Ja⟩,Ja,Ja,Ja⟩
def I1:La noS.val<=256/\Ob noS.val<=16777216:=by
  have h:decide (La noS.val<=256/\Ob noS.val<=16777216)=true:=by kernel_rfl
  exact mZ h
def XT:CfS (D1 3 noS):=by
  refine⟨⟨.inl O,.inl O,.inl O,λh=>?_,?_,?_⟩,I1,I1,I1⟩
  ·exact absurd h Ja
  ·decide
  decide
def YT:CfS (D1 3 s9):=⟨⟨.inr ⟨rfl,Ua⟩,.inl rfl,.inl rfl,λh=>absurd h Ja,Ja,Ja⟩,Ja,Ja,Ja⟩
def Kq:CfP cS:=⟨Cz.ok,Ja,Ja,Ja,Ja⟩
def Wy:La hmT<=512/\Ob hmT<=16777216:=by
  have h:decide (La hmT<=512/\Ob hmT<=16777216)=true:=by kernel_rfl
  exact mZ h
def SA:HolIn 1 hmT:=λt ht=>⟨0,Aa,Aa,by simpa[hmT,Ue,Jg,HJ]using ht⟩
def FI:SdOk s9:=⟨Ja,by simp[s9,To,Q6]⟩
def G1:∀m∈tS,MmOk m:=λm hm=>by
  rw[pQ.1 hm];exact⟨FI,Ja,Ja⟩
def FO:MmsP tS:=⟨G1,Ja,by
  have h:decide (La (Wh tS)<=1000000000)=true:=by kernel_rfl
  exact mZ h,by
  have h:decide (Ob (Wh tS)<=1073741824)=true:=by kernel_rfl
  exact mZ h⟩
def small_al:aL qQq<=65536:=Ja
def JB{P:Program}{ρ:Operand->Value}{o:Oper}{w':World}{b c:Bool}(h:(execOp ρ o).run P w=.ok (.value (.bool b)) w')(hb:b=c):(execOp ρ o).run P w=.ok (.value (.bool c)) w':=by rw[h,hb]
def EL(x:Tv)(w0:World):Calls prog 29 #[.agg (x.cells).toArray] w0 (Za λv w'=>v=.agg #[.bool true,J (x.k),I (x.t),.slice x.A x.n x.c,.slice x.B x.m x.e]/\Same [] w0 w'):=by
 refine Ea func29 ntmps29 ?_;intro hF;refine rn 3 ?_;rintro b1 w hb1 hF -;refine rn 1 ?_;rintro b2 w hb2 hF -;refine rn 5<|Ba (w':=w) (v:=.agg #[.bool true,J x.k,I x.t,.slice x.A x.n x.c,.slice x.B x.m x.e]) Ua ?_;refine rn 1 ?_;rintro w hF -;refine rn 3 ?_;exact⟨O,hF.same⟩
def eqSide_c(s:Sd)(x y:Sv)(S S2:Nat->Prop)(w0:World)(hX:Rep S w0 (Ad s) x.cells)(hY:Rep S2 w0 (Ad s) y.cells):Calls prog 26 #[.agg (x.cells).toArray,.agg (y.cells).toArray] w0 (Za λv w'=>v=.bool true/\Same [] w0 w'):=by
 refine Ea func26 ntmps26 ?_;intro hF;refine rn 3 ?_;rintro b1 w hb1 hF -;refine rn 1 ?_;rintro b2 w hb2 hF -;refine rn 9 ?_;refine Ba (v:=.bool true) (JB (x_eqlb underlying4 O O) (by rw[(Lc hX).1,(Lc hY).1];exact beq_self_eq_true _)) ?_;refine rn 5<|Ia (Qk (v':=.bool true) (XB s.val s.val _ _ _ x.v.cells y.v.cells (hF.rep (Lc hX).2.2.2.2)<|hF.rep (Lc hY).2.2.2.2)<|yQ Value.bool<|Hj _) ?_;rintro w hF -;refine rn 5 ?_;exact⟨O,hF.same⟩
def BF(t:List Mm)(A B:Option Addr)(c e:Nat)(S S2:Nat->Prop)(w0:World)(hX:Rep S w0 (Jd t) [.slice A (aL t) c])(hY:Rep S2 w0 (Jd t) [.slice B (aL t) e]):Calls prog 12 #[.slice A (aL t) c,.slice B (aL t) e] w0 (Za λv w'=>v=.bool true/\Same [] w0 w'):=by
 have hXl:=hX.slice_len;simp only[rQ]at hXl;have hYl:=hY.slice_len;simp only[rQ]at hYl;refine Ea func12 ntmps12 ?_;intro hF;refine rn 12<|Ba (v:=.bool false) (Cc (AR O O) Da) ?_;refine rn 12<|Sa (λμ σ w=>∃(i:Nat),μ=aL t-i/\(i<=aL t)/\AllEq σ [(0,.slice A (aL t) c),(1,.slice B (aL t) e),(5,J<|(i:Int))]/\FR w0 [] [] w) _ ⟨0,O,dZ _,Va,hF⟩ ?_;rintro μ σ w ⟨i,rfl,hi,hzz,hF⟩;refine Wf hzz 10 ⟨λhc1=>?_,λhc1=>?_⟩;have hil:i<aL t:=Aa
 refine rn 5<|Rb (zs:=.of []) (bQ [0,1,2,3,4,5,6,7,8,9]<|.act 10<|.free 11 .nil) hF ?_;intro w hF;refine rn 2 ?_;obtain⟨ad0,q0,hA0,hk0,hx0,hp0⟩:=hX.mm_elem (i:=i) hil;refine Ga O (v:=.pointer<|some<|ad0.add<|i*6) (λw hC=>Ca (i:=(i:Int)) Kf hA0)<|Ga O (v:=.pointer<|some<|(ad0.add<|i*6).add 1) (λw hC=>Oa (a:=ad0.add<|i*6) Sl)<|Ga O (v:=.agg (q0.cells).toArray) (λw hC=>Ma (l:=q0.cells) rZ vZ O O<|Sc (hC.cells0 hk0) 1 O) ?_;refine rn 2 ?_;obtain⟨ad1,q1,hA1,hk1,hx1,hp1⟩:=hY.mm_elem (i:=i) hil;refine Ga O (v:=.pointer<|some<|ad1.add<|i*6) (λw hC=>Ca (i:=(i:Int)) Kf hA1)<|Ga O (v:=.pointer<|some<|(ad1.add<|i*6).add 1) (λw hC=>Oa (a:=ad1.add<|i*6) Sl)<|Ga O (v:=.agg (q1.cells).toArray) (λw hC=>Ma (l:=q1.cells) rZ vZ O O<|Sc (hC.cells0 hk1) 1 O) ?_;refine Rc (eqSide_c t[i].sd q0 q1 _ _ _ (hF.rep hx0) (hF.rep hx1)) ?_;rintro w hF -;refine rn 4<|Rb (zs:=.of []) (bQ [0,1,2,3,4,5,6,7,8,9,10,11,12,13,14] .nil) hF ?_;intro w hF;refine rn 2 ?_;obtain⟨ad2,q2,hA2,hk2,hx2,hp2⟩:=hX.mm_elem (i:=i) hil;refine Ga O (v:=.pointer<|some<|ad2.add<|i*6) (λw hC=>Ca (i:=(i:Int)) Kf hA2)<|Ga O (v:=.pointer<|some<|(ad2.add<|i*6).add 0) (λw hC=>Oa (a:=ad2.add<|i*6) Pj)<|Ga O (v:=I<|t[i].pr) (λw hC=>Xa sZ<|hC.cell0<|hk2 0 Bf) ?_;refine rn 2 ?_;obtain⟨ad3,q3,hA3,hk3,ZO,hp3⟩:=hY.mm_elem (i:=i) hil;refine Ga O (v:=.pointer<|some<|ad3.add<|i*6) (λw hC=>Ca (i:=(i:Int)) Kf hA3)<|Ga O (v:=.pointer<|some<|(ad3.add<|i*6).add 0) (λw hC=>Oa (a:=ad3.add<|i*6) Pj)<|Ga O (v:=I<|t[i].pr) (λw hC=>Xa sZ<|hC.cell0<|hk3 0 Bf) ?_;refine Ga O (v:=.bool false) (λw hC=>Cc (DX O O) Da)<|rn 12 ?_;refine Zb (Wd<|((i+1:Nat):Int))<|rn 2 ?_;refine Ha ⟨_,?_,i+1,O,Aa,Va,hF⟩
 omega;refine rn 8 ?_;exact⟨O,hF.same⟩
end Go.Scarf
