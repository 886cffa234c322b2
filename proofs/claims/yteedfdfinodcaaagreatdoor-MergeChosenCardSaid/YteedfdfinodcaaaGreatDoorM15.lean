/- A part of the proof. -/
import Derived.Test.YteedfdfinodcaaaGreatDoorM10
set_option linter.all false
set_option maxHeartbeats 8000000
set_option maxRecDepth 10000
set_option synthInstance.maxHeartbeats 0
set_option synthInstance.maxSize 9999
namespace Go.Scarf
open List renaming length->aL
open Go.RowKit Go.Proofs Go.Proofs.Tryz
variable {pick:List Int}{oT x:Tree}{ks:List Str}{xs:List Tree}{h:Int}{M N b e i' id j:Nat}{listed:Array Bool}{T:TypeId}{o:Obj}{lv:List Value}{z:Value}{y:Operand}
theorem Tf{L:List Cf}{pick:List Int}{k:Int}:∀(xs:List Tree)(ks:List Str)(j:Nat)(hj:j<aL xs),
    Zd L pick k ks (xs.take (j+1))=((Zd L pick k ks (xs.take j)).1++(Nl L k (ks.getD j []) (Dd xs[j]) (Cc L pick xs[j])).1,(Zd L pick k ks (xs.take j)).2++(Nl L k (ks.getD j []) (Dd xs[j]) (Cc L pick xs[j])).2)
  | [],_,_,hj=>absurd hj Ca
  | x :: xs, ks, 0, _ => by
    simp only[List.take_succ_cons,List.take_zero,Zd,kZ,qQ,List.getElem_cons_zero];cases ks <;> rfl
  | x :: xs, ks, j + 1, hj => by
    have ih:=Tf (L:=L) (pick:=pick) (k:=k) xs ks.tail j (aS hj);rw[List.take_succ_cons,Zd,ih,List.take_succ_cons,Zd];have e:ks.tail.getD j []=ks.getD (j+1) []:=by cases ks <;> simp
    simp only[e,List.getElem_cons_succ,sQ]
structure CfS (c:Cf):Prop where
  rig:CfR c
  b:Ja c.b.val<=256/\Hb c.b.val<=16777216
  l:Ja c.l.val<=256/\Hb c.l.val<=16777216
  r:Ja c.r.val<=256/\Hb c.r.val<=16777216
def CfS.ok{c:Cf}(h:CfS c):CfOk c:=⟨⟨by have:=h.b;omega,Ae _ (by have:=h.b;omega)⟩,⟨by have:=h.l;omega,Ae _ (by have:=h.l;omega)⟩,⟨by have:=h.r;omega,Ae _ (by have:=h.r;omega)⟩⟩
def B7{s:Sd}(h:SdR s):Zk s=s:=by
  rcases h with rfl|⟨h1,h2⟩
  ·rfl
  unfold Zk;rw[uQ h1,Hl h2,<-h1]
theorem SN{c:Cf}(h:CfS c)(pk:Int):Ja (Fh c pk).1.val<=256/\Hb (Fh c pk).1.val<=16777216:=by
  obtain⟨r1,r2,r3,-⟩:=h.rig;unfold Fh;split
  ·rw[B7 r1]
   exact h.b
  split
  ·rw[B7 r2]
   exact h.l
  split
  ·rw[B7 r3]
   exact h.r
  grind [noS,zeroT,Ja,Oa,Hb,Th,Xf]
theorem Y4{L:List Cf}(h:∀c∈L,CfS c)(pick:List Int)(i:Int):Ja (Qm L pick i).val<=256/\Hb (Qm L pick i).val<=16777216:=by grind [Qm,Qy,SN,Fh,Zk,noS,zeroT,Ja,Oa,Hb,Th,Xf]
theorem MC{L:List Cf}(h:0<=Dd x):Cc L pick x=Qm L pick (Dd x):=by
  cases x;grind [Cc]
theorem IH{L:List Cf}(hL:∀c∈L,CfS c)(pick:List Int)(k:Int)(key:Str)(x:Tree):aL (Nl L k key (Dd x) (Cc L pick x)).2<=256/\aL (Nl L k key (Dd x) (Cc L pick x)).1<=1:=by grind [Nl,MC,Y4,Dd,Xn,Qm,Vd]
theorem I8{L:List Cf}(hL:∀c∈L,CfS c)(pick:List Int)(k:Int)(ks:List Str)(xs:List Tree):∀j,j<=aL xs->aL (Zd L pick k ks (xs.take j)).2<=256*j/\aL (Zd L pick k ks (xs.take j)).1<=j
  | 0,_=>by simp[Zd]
  | j + 1, hj => by
    have ih:=I8 hL pick k ks xs j fX;have h1:=IH hL pick k (ks.getD j [])<|xs[j]' fX;rw[Tf xs ks j fX];simp only[dQ];omega
theorem Ys{L:List Cf}{pick:List Int}{k:Int}{ks:List Str}{xs:List Tree}:∀j,j<=aL xs->∀s∈(Zd L pick k ks (xs.take j)).1,s∈ks\/s=[]
  | 0,_=>λs hs=>by simp[Zd]at hs
  | j + 1, hj => λs hs => by
    rw[Tf xs ks j fX]at hs;rcases mQ.1 hs with hs|hs
    ·exact Ys j fX s hs
    have:s=ks.getD j []:=by
      unfold Nl at hs;split at hs
      ·split at hs
       ·simpa using hs
       split at hs <;> simp at hs
      simp at hs
    rw[this];by_cases hjk:j<aL ks
    ·left;simp[List.getD,hjk]
    right;simp[List.getD,Nat.not_lt.1 hjk]
def HolIn(n:Nat)(x:Tree):Prop:=∀t∈Xc x,∃i,i<n/\i<1000/\t=Sj i
theorem PQ{n:Nat}{k:Int}{t:Str}(h:HolIn n (.node k t ks xs))(h0:0<=Gs k t):∃i,i<n/\Gs k t=(i:Int):=by
  by_cases hk:k=7
  ·obtain⟨i, hi, hi2, e⟩ := h t (by rw[Xc, uQ hk];simp)
   refine⟨i,hi,?_⟩;have:=Vo hi2;rw[e,hk];exact this
  grind [Gs]
def HolIn.kid{n:Nat}{k:Int}{t:Str}(h:HolIn n (.node k t ks xs))(hx:x∈xs):HolIn n x:=λs hs=>h s (by
  rw[Xc,Wd];exact List.mem_append_right _<|List.mem_flatMap.2 ⟨x,hx,hs⟩)
structure OpT (n:Nat) (x:Tree):Prop where
  hol:HolIn n x
  nod:Zb nodeB x=true
  sz:Ja x<=512
  mx:Hb x<=16777216
def OpT.kid{n:Nat}{k:Int}{t:Str}(h:OpT n (.node k t ks xs))(hx:x∈xs):OpT n x :=
  ⟨h.hol.kid hx,(Sc h.nod).2 x hx,by have:=h.sz;have:=Ld hx;rw[Ja]at *;omega,by have:=h.mx;have:=Nd hx;rw[Hb]at *;omega⟩
theorem CF{L:List Cf}{i:Nat}(h:i<aL L):L.getD ((i:Nat):Int).toNat Qy=L[i]:=qJ
theorem kidF_no{L:List Cf}{k:Int}{key:Str}{s:Sd}(hs:s.has=false):Nl L k key h s=([],[]):=by grind [Nl]
theorem kidF_six{L:List Cf}{k:Int}{key:Str}{s:Sd}(hs:s.has=true)(hk:k=6):Nl L k key h s=([key],[s.val]):=by grind [Nl]
theorem LH{L:List Cf}{k:Int}{key:Str}{s:Sd}(hs:s.has=true)(hk:¬k=6)(h5:0<=h/\(L.getD h.toNat Qy).cls=5):Nl L k key h s=([],s.val.items):=by grind [Nl]
theorem RH{L:List Cf}{k:Int}{key:Str}{s:Sd}(hs:s.has=true)(hk:¬k=6)(h5:¬(0<=h/\(L.getD h.toNat Qy).cls=5)):Nl L k key h s=([],[s.val]):=by grind [Nl]
def FillC(L:List Cf)(pick:List Int)(x:Tree):Prop:=∀(LA PA:Option Addr)(lc pc:Nat)(SL SP S:Nat->Prop)(w0:World)(cs:List Value),Rep SL w0 (.slice (L.map VD)) [.slice LA (aL L) lc]->Rep SP w0 (.slice (pick.map Pd)) [.slice PA (aL pick) pc]->Rep S w0 (Sa x) cs->OpT (aL L) x->Gl w0 ->
  Calls prog 30 #[.agg #[.slice LA (aL L) lc,.slice PA (aL pick) pc],.agg cs.toArray] w0 (Qb λv w'=>∃y:Sv,v=.agg y.cells.toArray/\Rep (Btw w0 w') w' (Rc (Cc L pick x)) y.cells/\Same [] w0 w')
def U7(h:Hb x<=M):aL x.text<=M:=by
  cases x with
  | node k t ks xs =>
    rw[Hb]at h;show (aL t)<=M;omega
theorem LZ{k:Int}{t:Str}(h:Zb nodeB (.node k t ks xs)=true)(hk:k=6):aL ks=aL xs:=by grind [Sc,nodeB,Wl]
theorem PV(L:List Cf)(pick:List Int)(hlp:aL L=aL pick)(hLs:∀c∈L,CfS c)(k:Int)(t:Str)(ks:List Str)(xs:List Tree)(ih:∀x,x∈xs->FillC L pick x):FillC L pick (.node k t ks xs):=by
 intro LA PA lc pc SL SP S w0 cs hL hP hR hop hG;obtain⟨A,c,B,e,rfl,hk0,ht0,hKs,hX⟩:=hR.tree_inv;have hXl:=hX.slice_len;have hLl:=hL.slice_len;have hPl:=hP.slice_len;simp only[rQ]at hLl hPl;have hsz:=hop.sz;rw[Ja]at hsz;have hxn:=Vd xs;have htm:=U7 hop.mx;have htl:aL t<=140737488355328:=by simp only[Tree.text]at htm;omega
 have hkm:∀s∈ks,aL s<=16777216:=Ox hop.mx;refine Ha func30 ntmps30 ?_;intro hF;refine rn 3 ?_;rintro b1 w hb1 hF -;refine rn 1 ?_;rintro b2 w hb2 hF -;refine rn 1 ?_;rintro b3 w hb3 hF -;refine rn 6<|Ta (NR ⟨k,t,A,aL ks,c,B,aL xs,e⟩ htl _<|hG.ext hF.same) ?_;rintro w hF -;refine rn 10 ⟨λhc0=>?_,λhc0=>?_⟩
 ·
  have hc0i:=hc0;obtain⟨i0,hi0,hhx⟩:=PQ hop.hol hc0;have hi0p:i0<aL pick:=by_Om
  obtain⟨ad0,cq0,hAd0,hcq0,hcf0⟩:=hL.cf_elem hi0;rw[hhx];refine rn 1<|Fe (zs:=.of []) (bQ [0,1,2,3,4,5,6,7,8,9]<|.alt 10 (bQ [11,12,13]<|.act 14<|.act 15<|.free 16 .nil)<|.act 14<|.act 10<|bQ [11,12,13]<|.act 15<|.free 16 .nil) hF ?_;intro w hF;refine rn 3 ?_;refine Fa O (v:=.pointer<|some<|ad0.add<|i0*17) (λw hC=>Ea (i:=(i0:Int)) M_ hAd0)<|Fa O (v:=.agg (cq0.cells).toArray) (λw hC=>Qa (l:=cq0.cells) isAgg38 sizeOf38 O O<|hC.cells0 hcq0) ?_;refine rn 3 ?_;obtain⟨ad0,hA0,hk0,hx0⟩:=hP.int_elem (i:=i0) hi0p;refine Fa O (v:=.pointer<|some<|ad0.add<|i0*1) (λw hC=>Ea (i:=(i0:Int)) Ud hA0)<|Fa O (v:=J<|pick[i0]) (λw hC=>Ma oZ<|hC.cell0 hk0) ?_
  repeat' first
   |refine Ip ?_ ?_
   |
    refine Bh 10<|Me (H8 L[i0] cq0 pick[i0] _ _ (hcf0.ext hF.same) (hLs _<|eQ _).ok (hG.ext hF.same)) ?_;rintro _ w ⟨y,rfl,hRt,hE⟩
    first|have hY:=RX.made (ids:=[b301,b3,b2,b1]) hF.same.size (λx hx=>hF.lt_ids (aS hx)) hRt|have hY:=RX.made (ids:=[b3,b2,b1]) hF.same.size (λx hx=>hF.lt_ids (aS hx)) hRt
    have hF:=hF.ext hE;clear hE hRt
    try refine⟨hF,?_⟩
    try refine⟨hF.su,?_⟩
   |
    refine Bh 14<|rn 1 ?_;intro b301 w hb301 hF hE
    try have hY:=hY.alloc hE hb301
   |refine Bh 15<|rn 1 ?_;intro w hF hE;have hY:=hY.store hE qJ
   |
    refine rn 6 ?_;intro w hF hE;have hY:=hY.store hE qJ;refine rn 3 ?_;have e0:Cc L pick (.node k t ks xs)=(Fh L[i0] pick[i0]).1:=by rw[MC (by rw[L4];exact hc0i),L4];show Qm L pick (Gs k t)=_;rw[hhx];unfold Qm;simp[List.getD,hi0,hi0p]
    rw[e0];exact⟨y,O,hY.done,hF.same⟩
   |refine rn 1 ?_
 refine rn 8<|Da (w':=w) (v:=.agg #[J k,I t,aQ,aQ]) Ib ?_;refine rn 1 ?_;rintro b6 w hb6 hF -;refine rn 12<|Za (λμ σ w=>∃(j:Nat),∃(ac:List Str × List Tree),∃(A1:Option Addr),∃(c1:Nat),∃(sk:List (Nat × Obj)),∃(A2:Option Addr),∃(c2:Nat),∃(si:List (Nat × Obj)),∃(vals:List Value),μ=aL xs-j/\(j<=aL xs)/\(Zd L pick k ks (xs.take j)=ac)/\(SlB 9 1 A1 (aL ac.1) c1 (ac.1.map λs=>Value.string<|bs s) sk)/\(SlB 25 4 A2 (aL ac.2) c2 vals si)/\(RX w0 ([b6,b3,b2,b1]++(ids sk++ids si)) w (ac.2.map Sa) vals)/\AllEq σ [(2,V b1),(3,V b2),(4,V b3),(8,V b6),(38,.slice B (aL xs) e),(39,J<|(aL xs:Nat)),(40,J<|(j:Int))]/\FR w0 [] ([(b6,.cells #[J k,I t,.slice A1 (aL ac.1) c1,.slice A2 (aL ac.2) c2] 25),(b3,.cells #[.bool false,J 0,I [],aQ,aQ] 36),(b2,.cells #[J k,I t,.slice A (aL ks) c,.slice B (aL xs) e] 25),(b1,.cells #[.slice LA (aL L) lc,.slice PA (aL pick) pc] 64)]++(sk++(si++[]))) w) _ ⟨0,([],[]),none,0,[],none,0,[],[],O,bZ _,by simp[Zd],SlB.nil _ _,SlB.nil _ _,RX.nil,ae7,hF⟩ ?_;rintro μ σ w ⟨j,ac,A1,c1,sk,A2,c2,si,vals,rfl,hj,hac,hK,hI2,hV,hzz,hF⟩;have hfl:=I8 hLs pick k ks xs j hj;rw[hac]at hfl;refine Gh hzz 7 ⟨λhc1=>?_,λhc1=>?_⟩
 ·
  refine rn 3<|Of (λσ w=>∃(ac3:List Str × List Tree),∃(A3:Option Addr),∃(c3:Nat),∃(sk3:List (Nat × Obj)),∃(A4:Option Addr),∃(c4:Nat),∃(si3:List (Nat × Obj)),∃(vals3:List Value),(Zd L pick k ks (xs.take<|j+1)=ac3)/\(j<aL xs)/\(SlB 9 1 A3 (aL ac3.1) c3 (ac3.1.map λs=>Value.string<|bs s) sk3)/\(SlB 25 4 A4 (aL ac3.2) c4 vals3 si3)/\(RX w0 ([b6,b3,b2,b1]++(ids sk3++ids si3)) w (ac3.2.map Sa) vals3)/\AllEq σ [(2,V b1),(3,V b2),(4,V b3),(8,V b6),(38,.slice B (aL xs) e),(39,J<|(aL xs:Nat)),(40,J<|(j:Int))]/\FR w0 [] ([(b6,.cells #[J k,I t,.slice A3 (aL ac3.1) c3,.slice A4 (aL ac3.2) c4] 25),(b3,.cells #[.bool false,J 0,I [],aQ,aQ] 36),(b2,.cells #[J k,I t,.slice A (aL ks) c,.slice B (aL xs) e] 25),(b1,.cells #[.slice LA (aL L) lc,.slice PA (aL pick) pc] 64)]++(sk3++(si3++[]))) w) ?_ ?_
  ·
   refine rn 2 ?_;have hjx:j<aL xs:=by_Om
   obtain⟨adz,cz,hAz,hlz,hkz,hrz⟩:=hX.tree_elem hjx;obtain⟨z,rfl,-⟩:=Hj hrz;have hzp:=Md hrz;have hzk:Dd xs[j]=Gs z.k z.t:=by rw[L4,hzp.1,hzp.2.1]
   have hzm:=U7 (hop.kid<|List.getElem_mem (l:=xs) hjx).mx;have hzl:aL z.t<=140737488355328:=by rw[hzp.2.1];omega
   have hkid:0<=Gs z.k z.t->∃i,i<aL L/\Gs z.k z.t=(i:Int):=λh=>by rw[hzp.1,hzp.2.1]at h ⊢;have h9:=(hop.kid<|List.getElem_mem (l:=xs) hjx).hol;revert h h9;generalize xs[j]=u;intro h h9;cases u;exact PQ h9 h
   skip
   refine rn 2<|Da (v:=.pointer<|some<|adz.add<|j*4) (Ea (i:=(j:Int)) Wc hAz)<|Da (v:=.agg (z.cells).toArray) (Qa (l:=z.cells) nZ rZ O O<|hF.cells0 hkz) ?_;refine rn 1 ?_;intro b7 w hb7 hF hE;have hV:=hV.alloc hE hb7;refine rn 2 ?_;intro w hF hE;have hV:=hV.store hE Ca;refine rn 6<|Yb (ih _ (eQ _) LA PA lc pc _ _ _ _ z.cells (hF.rep hL) (hF.rep hP) (hF.rep hrz) (hop.kid<|eQ _)<|hG.ext hF.same) ?_;rintro _ w ⟨q,rfl,hRt,hE⟩;have hQ:=RX.made (ids:=(b7::([b6,b3,b2,b1]++(ids sk++ids si)))) hF.same.size (λx hx=>hF.lt_ids wM) hRt;have hF:=hF.ext hE;have hV:=hV.ext hE;clear hE hRt;refine rn 1 ?_;intro b8 w hb8 hF hE;have hV:=hV.alloc hE hb8;have hQ:=hQ.alloc hE hb8;refine rn 5<|Ta (NR z hzl _<|hG.ext hF.same) ?_;intro w hF hE;have hV:=hV.ext hE;have hQ:=hQ.ext hE;refine rn 5 ?_;have hqs:=Hc hQ.rep;refine rn 8 ⟨λhc2=>?_,λhc2=>?_⟩
   ·
    have hqn:(Cc L pick xs[j]).has=false:=by rw[<-hqs.1];simpa using hc2
    refine rn 3 ?_;exact Va ⟨ac,A1,c1,sk,A2,c2,si,vals,by rw[Tf xs ks j hjx,hac,kidF_no hqn,qQ,qQ],hjx,hK,hI2,hV.sub qT,Gc,hF.drop 2⟩
   have hqh:(Cc L pick xs[j]).has=true:=by rw[<-hqs.1];simpa using hc2
   have hQv:=hqs.2.2.2.2;refine rn 9 ⟨λhc3=>?_,λhc3=>?_⟩
   ·
    have hjk:j<aL ks:=by have:=LZ hop.nod hc3;omega
    refine Vb ⟨[16,18],λwq=>FR w0 [] [(b8,.cells (q.cells).toArray 36),(b7,.cells (z.cells).toArray 25),(b3,.cells #[.bool false,J 0,I [],aQ,aQ] 36),(b2,.cells #[J k,I t,.slice A (aL ks) c,.slice B (aL xs) e] 25),(b1,.cells #[.slice LA (aL L) lc,.slice PA (aL pick) pc] 64)] wq,[11,12]⟩ (bQ [0,1,2,3,4,5,6,9,10,11,12]<|.alt 7 (.alt 8 (.free 15<|cQ [13,14,16]<|.free 17<|.act 18 .nil)<|.act 13<|.act 8<|.free 15<|.act 14<|.act 16<|.free 17<|.act 18 .nil)<|cQ [13,7,8]<|.free 15<|.act 14<|.act 16<|.free 17<|.act 18 .nil) hF ?_;intro w hF hE;have hV:=hV.ext hE;have hQ:=hQ.ext hE;refine⟨λwq=>FR w0 [] [(b8,.cells (q.cells).toArray 36),(b7,.cells (z.cells).toArray 25),(b6,.cells #[J k,I t,.slice A1 (aL ac.1) c1,.slice A2 (aL ac.2) c2] 25),(b3,.cells #[.bool false,J 0,I [],aQ,aQ] 36),(b2,.cells #[J k,I t,.slice A (aL ks) c,.slice B (aL xs) e] 25),(b1,.cells #[.slice LA (aL L) lc,.slice PA (aL pick) pc] 64)] wq,hF.mid 0 6,?_⟩;refine rn 5 ?_;obtain⟨ad1,hA1,hk1,hx1⟩:=hKs.str_elem (i:=j) hjk;refine Fa O (v:=.pointer<|some<|ad1.add<|j*1) (λw hC=>Ea (i:=(j:Int)) Hd hA1)<|Fa O (v:=I<|ks[j]) (λw hC=>Ma qZ<|hC.cell0 hk1) ?_;refine rn 3 ?_;refine Jx O (v:=.agg (q.v.cells).toArray) (λw hC=>Qa (l:=q.v.cells) nZ rZ O O<|hC.part 0 1 O O) (λw hC=>Qa (l:=q.v.cells) nZ rZ O O<|hC.part 0 1 O O) ?_
    repeat' first
     |refine Ip ?_ ?_|refine Bh 7<|rn 1 ?_;intro b302 w hb302 hF hE;have hV:=hV.alloc hE hb302;have hQ:=hQ.alloc hE hb302|refine Bh 8<|D4 hK (len':=aL (ac.1++[ks[j]])) (ys:=((ac.1++[ks[j]]).map λs=>Value.string<|bs s)) Ca Ca ?_;intro A303 c303 k_303 w hS303_k hF hE hnew;have hsub:∀x∈(sk).map (·.1),x∈ids sk:=λ_ h=>h;have hV:=hV.grow hE hnew (λx hx=>by have:=hsub x hx;simp[this]);have hQ:=hQ.grow hE hnew (λx hx=>by have:=hsub x hx;simp[this]);clear hsub|refine Bh 13<|rn 1 ?_;intro b304 w hb304 hF hE;have hV:=hV.alloc hE hb304;have hQ:=hQ.alloc hE hb304|refine Bh 14<|D4 hI2 (len':=aL (ac.2++[(Cc L pick xs[j]).val])) (ys:=vals++q.v.cells) Ca (O) ?_;intro A305 c305 i_305 w hS305_i hF hE hnew;have hsub:∀x∈(si).map (·.1),x∈ids si:=λ_ h=>h;have hV:=hV.grow hE hnew (λx hx=>by have:=hsub x hx;simp[this]);have hQ:=hQ.grow hE hnew (λx hx=>by have:=hsub x hx;simp[this]);clear hsub|refine Bh 16<|rn 1 ?_;intro w hF hE;have hV:=hV.store hE Ca;have hQ:=hQ.store hE Ca|refine Bh 18<|rn 1 ?_;intro w hF hE;have hV:=hV.store hE Ca;have hQ:=hQ.store hE Ca|refine rn 3 ?_;exact Va ⟨(ac.1++[ks[j]],ac.2++[(Cc L pick xs[j]).val]),A303,c303,k_303,A305,c305,i_305,vals++q.v.cells,(by rw[Tf xs ks j hjx,hac,kidF_six hqh qK,show ks.getD j []=ks[j] by simp[List.getD,hjk]]),hjx,hS303_k,hS305_i,jP,Gc,hF.drop 4⟩|refine rn 1 ?_
   refine rn 6 ⟨λhg8=>?_,λhg8=>?_⟩
   ·
    obtain⟨i1,hi1,hh1⟩:=hkid fX;obtain⟨ad1,cq1,hAd1,hcq1,hcf1⟩:=hL.cf_elem hi1;have hcl1:=hcf1.k;rw[hh1];refine rn 3<|Da (v:=.pointer<|some<|ad1.add<|i1*17) (Ea (i:=(i1:Int)) M_ hAd1)<|Da (v:=.pointer<|some<|(ad1.add<|i1*17).add 1) (He (a:=ad1.add<|i1*17) GD)<|Da (v:=J cq1.k) (Ma oZ<|hF.cell0<|hcq1 1 Pt) ?_;refine rn 6 ⟨λhc4=>?_,λhc4=>?_⟩
    ·
     have hqm:=(Md hQv).2.2.2.1;obtain⟨eG,hrG,hGl_,hGc⟩:=((Md hQv).2.2.2.2.2).slice_open (λd hd=>by rw[Fc]at hd;obtain⟨u,_,rfl⟩:=nQ.1 hd;exact Cb u);have hRG:RX w0 _ _ _ _:=hrG;have h5:0<=Dd xs[j]/\(L.getD (Dd xs[j]).toNat Qy).cls=5:=by rw[hzk,hh1];exact⟨by_Om,by rw[CF hi1];omega⟩
     have hil:=(IH hLs pick k [] xs[j]).1;rw[LH hqh qK h5]at hil;simp only at hil;refine rn 6 ?_;refine KL [_,_,_,_,_,_] [sk,si] 1 (news:=eG) (len':=aL (ac.2++(Cc L pick xs[j]).val.items)) (ys:=vals++eG) H3 hF hI2 rfl rfl (hGl_) (λhk=>by obtain⟨ad,hA,hc⟩:=hGc hk;exact⟨ad,hA,Ce hc⟩) (Zl hrG.one_) qR (by rw[dQ,<-hqm]) (rfl) fX ?_;intro A9 c9 i_9 w hS9_i hF hE hnew;have hsub:∀x∈(si).map (·.1),x∈ids si:=λ_ h=>h;have hV:=hV.grow hE hnew (λx hx=>by have:=hsub x hx;simp[this]);have hQ:=hQ.grow hE hnew (λx hx=>by have:=hsub x hx;simp[this]);have hRG:=hRG.grow hE hnew (λx hx=>by have:=hsub x hx;simp[this]);clear hsub;refine rn 2 ?_;intro w hF hE;have hV:=hV.store hE Ca;have hQ:=hQ.store hE Ca;have hRG:=hRG.store hE Ca;refine rn 3 ?_;exact Va ⟨(ac.1,ac.2++(Cc L pick xs[j]).val.items),A1,c1,sk,A9,c9,i_9,vals++eG,by rw[Tf xs ks j hjx,hac,LH hqh qK h5,qQ],hjx,hK,hS9_i,by rw[jQ,<-Fc (Cc L pick xs[j]).val.items];exact (hV.append hRG).sub qT,Gc,hF.drop 2⟩
    have h5n:¬(0<=Dd xs[j]/\(L.getD (Dd xs[j]).toNat Qy).cls=5):=by
      rintro⟨ha,hb⟩
      first
      | (rw[hzk]at ha;omega)
      | (rw[hzk,hh1,CF hi1]at hb;omega)
    refine rn 6 ?_;intro b14 w hb14 hF hE;have hV:=hV.alloc hE hb14;have hQ:=hQ.alloc hE hb14;refine C_ hI2 (len':=aL (ac.2++[(Cc L pick xs[j]).val])) (ys:=vals++q.v.cells) Ca (O) ?_;intro A10 c10 i_10 w hS10_i hF hE hnew;have hsub:∀x∈(si).map (·.1),x∈ids si:=λ_ h=>h;have hV:=hV.grow hE hnew (λx hx=>by have:=hsub x hx;simp[this]);have hQ:=hQ.grow hE hnew (λx hx=>by have:=hsub x hx;simp[this]);clear hsub;refine rn 2 ?_;intro w hF hE;have hV:=hV.store hE Ca;have hQ:=hQ.store hE Ca;refine rn 3 ?_;exact Va ⟨(ac.1,ac.2++[(Cc L pick xs[j]).val]),A1,c1,sk,A10,c10,i_10,vals++q.v.cells,by rw[Tf xs ks j hjx,hac,RH hqh qK h5n,qQ],hjx,hK,hS10_i,jP,Gc,hF.drop 3⟩
   refine rn 12 ?_;have h5n:¬(0<=Dd xs[j]/\(L.getD (Dd xs[j]).toNat Qy).cls=5):=by
     rintro⟨ha,hb⟩
     first
     | (rw[hzk]at ha;omega)
     | (rw[hzk,hh1,CF hi1]at hb;omega)
   refine rn 6 ?_;intro b15 w hb15 hF hE;have hV:=hV.alloc hE hb15;have hQ:=hQ.alloc hE hb15;refine C_ hI2 (len':=aL (ac.2++[(Cc L pick xs[j]).val])) (ys:=vals++q.v.cells) Ca (O) ?_;intro A11 c11 i_11 w hS11_i hF hE hnew;have hsub:∀x∈(si).map (·.1),x∈ids si:=λ_ h=>h;have hV:=hV.grow hE hnew (λx hx=>by have:=hsub x hx;simp[this]);have hQ:=hQ.grow hE hnew (λx hx=>by have:=hsub x hx;simp[this]);clear hsub;refine rn 2 ?_;intro w hF hE;have hV:=hV.store hE Ca;have hQ:=hQ.store hE Ca;refine rn 3 ?_;exact Va ⟨(ac.1,ac.2++[(Cc L pick xs[j]).val]),A1,c1,sk,A11,c11,i_11,vals++q.v.cells,by rw[Tf xs ks j hjx,hac,RH hqh qK h5n,qQ],hjx,hK,hS11_i,jP,Gc,hF.drop 3⟩
  rintro σ w ⟨ac3,A3,c3,sk3,A4,c4,si3,vals3,hac3,hjx,hK3,hI3,hV3,hzz,hF⟩;refine J9 hzz 2<|Tc (Le<|((j+1:Nat):Int)) ?_;refine rn 2<|Va ⟨_,?_,j+1,ac3,A3,c3,sk3,A4,c4,si3,vals3,O,fX,hac3,hK3,hI3,hV3,Gc,hF⟩;omega
 refine rn 5<|Ta (Ym ⟨k,t,A1,aL ac.1,c1,A2,aL ac.2,c2⟩) ?_;intro w hF hE;have hV:=hV.ext hE;refine rn 1 ?_;intro w hF hE;have hV:=hV.store hE Ca;refine rn 3 ?_;obtain rfl:j=aL xs:=by_Om
 have e0:Cc L pick (.node k t ks xs)=⟨true,.node k t ac.1 ac.2⟩:=by rw[Cc,tQ (by rw[L4];exact hc0),<-hac,List.take_length]
 rw[e0];have hkl:∀s∈ac.1,aL s<=9223372036854775807:=λs hs=>by rw[<-hac]at hs;rcases Ys _ (gQ _) s hs with h|h;(have:=hkm s h;omega);(rw[h];simp)
 refine⟨⟨true,k,t,A1,aL ac.1,c1,A2,aL ac.2,c2⟩,O,Wi (s:=⟨true,.node k t ac.1 ac.2⟩) (x:=⟨k,t,A1,aL ac.1,c1,A2,aL ac.2,c2⟩)<|Rep.tree_mk ⟨by_Om,by_Om⟩ fX ?_ ?_,hF.same⟩
 ·exact hK.rep (pre:=[_,_,_,_]) hF (RX.strs (ids:=([b6,b3,b2,b1]++(ids sk++ids si))) hkl) Ca
 rw[Fc];exact hI2.rep (pre:=[_,_,_,_]++sk) (post:=[]) (aS hF) hV Ca
def chFill_c(L:List Cf)(pick:List Int)(hlp:aL L=aL pick)(hLs:∀c∈L,CfS c)(x:Tree):FillC L pick x:=Tree.ind (PV L pick hlp hLs) x
theorem HY{L:List Cf}(hL:∀c∈L,CfS c)(pick:List Int)(k:Int)(key:Str)(x:Tree):Oa (Nl L k key (Dd x) (Cc L pick x)).2<=Ja (Cc L pick x).val:=by grind [Nl,Oa,Xn,Cc]
theorem kid_max{L:List Cf}(pick:List Int)(k:Int)(key:Str)(x:Tree)(h:Hb (Cc L pick x).val<=M):∀y∈(Nl L k key (Dd x) (Cc L pick x)).2,Hb y<=M:=by grind [Nl,Pf]
def WH{L:List Cf}(hL:∀c∈L,CfS c)(pick:List Int)(x:Tree):Hb x<=16777216->Ja (Cc L pick x).val<=257*Ja x/\Hb (Cc L pick x).val<=16777216 :=
  Tree.ind (Q:=λx=>Hb x<=16777216->Ja (Cc L pick x).val<=257*Ja x/\Hb (Cc L pick x).val<=16777216) (λk t ks xs ih hm=>by
    by_cases h0:0<=Dd (.node k t ks xs)
    ·rw[MC h0]
     have:=Y4 hL pick<|Dd<|.node k t ks xs;have:=On<|.node k t ks xs;exact⟨by_Om,by_Om⟩
    rw[Cc, tQ h0];have key:∀j,j<=aL xs->Oa (Zd L pick k ks<|xs.take j).2<=257*Oa (xs.take j)/\∀y∈(Zd L pick k ks<|xs.take j).2,Hb y<=16777216:=by
      intro j
      induction j with
      | zero=>intro _;simp[Zd,Oa]
      | succ j ihj =>
        intro hj;obtain⟨h1,h2⟩:=ihj fX;have hx:xs[j]' fX∈xs:=eQ _;obtain⟨h3,h4⟩:=ih _ hx<|Pf (x:=.node k t ks xs) hm _ hx;rw[Tf xs ks j fX];have h5:=HY hL pick k (ks.getD j [])<|xs[j]' fX;have h6:Oa (xs.take<|j+1)=Oa (xs.take j)+Ja (xs[j]' fX):=by rw[iQ fX,Kc];simp[Oa]
        refine⟨by rw[Kc,h6];omega,λy hy=>?_⟩;rcases mQ.1 hy with hy|hy
        ·exact h2 y hy
        exact kid_max pick k _ _ h4 y hy
    obtain⟨h1,h2⟩:=key (aL xs)<|gQ _;rw[List.take_length]at h1 h2;refine⟨by rw[Ja,Ja];omega,?_⟩;have h7:=Jq h2;have h8:Th (Zd L pick k ks xs).1<=16777216:=Rs λs hs=>by
      have hs':=hs;rw[<-List.take_length (l:=xs)]at hs';rcases Ys (aL xs) (gQ _) s hs' with h|h
      ·exact Ox (x:=.node k t ks xs) hm s h
      rw[h];simp
    have h9:=U7 (x:=.node k t ks xs) hm;simp only[Tree.text]at h9;rw[Hb];omega) x
def S8{v:Tree}{L:List Cf}(h:¬(Ke v=true/\Do v L pick=true)):Ai v L pick=(zeroT,1):=tQ h
def Xs{v:Tree}{L:List Cf}(h:Ke v=true/\Do v L pick=true):Ai v L pick=if (Cc L pick v).has=true then (if Eb (Cc L pick v).val=true then ((Cc L pick v).val,0) else (zeroT,1)) else (zeroT,8):=uQ h
def EV{v:Tree}(h:Ke v=true):Zb nodeB v=true:=(Bool.and_eq_true_iff.1 h).2
theorem good_len{v:Tree}{L:List Cf}(h:Do v L pick=true):aL L=aL pick:=by grind [Do]
theorem BJ(L:List Cf)(pick:List Int)(LA PA:Option Addr)(lc pc:Nat)(SL SP:Nat->Prop)(t:Tree)(x:Tv)(SX:Nat->Prop)(w0:World)(hL:Rep SL w0 (.slice (L.map VD)) [.slice LA (aL L) lc])(hP:Rep SP w0 (.slice (pick.map Pd)) [.slice PA (aL pick) pc])(hLs:∀c∈L,CfS c)(hX:Rep SX w0 (Sa t) x.cells)(hol:HolIn (aL L) t)(hsz:Ja t<=512)(hmx:Hb t<=16777216)(hG:Gl w0):Calls prog 12 #[.agg (x.cells).toArray,.slice LA (aL L) lc,.slice PA (aL pick) pc] w0 (Qb λv w'=>∃q:Tv,v=.tuple #[.agg q.cells.toArray,J (Ai t L pick).2]/\Rep (Btw w0 w') w' (Sa (Ai t L pick).1) q.cells/\Same [] w0 w'):=by
 refine Ha func12 ntmps12 ?_;intro hF;refine rn 3 ?_;rintro b1 w hb1 hF -;refine rn 1 ?_;rintro b2 w hb2 hF -;refine rn 7<|Da (w':=w) (v:=.agg #[.slice LA (aL L) lc,.slice PA (aL pick) pc]) Ib ?_;refine rn 1 ?_;rintro b3 w hb3 hF -;refine rn 6<|Ta (Rv t fX _ x.cells (hF.rep hX) (Ae _ fX)<|hG.ext hF.same) ?_;rintro w hF -;refine rn 3 ⟨λhg0=>?_,λhg0=>?_⟩
 ·
  refine rn 10<|Da (w':=w) (v:=.agg #[J 0,I [],aQ,aQ]) Ib ?_;refine rn 1 ?_;rintro w hF -;refine rn 4 ?_;rw[S8 qX];exact⟨IQ,O,Zf _ _,hF.same⟩
 refine rn 2<|Ta (goodC_c L pick LA PA lc pc _ _ t x _ _ (hF.rep hL) (hF.rep hP) (λc hc=>(hLs c hc).ok) (hF.rep hX) fX<|hG.ext hF.same) ?_;rintro w hF -;refine rn 5 ⟨λhc0=>?_,λhc0=>?_⟩
 ·
  refine rn 2<|Da (w':=w) (v:=.agg #[J 0,I [],aQ,aQ]) Ib ?_;refine rn 1 ?_;rintro w hF -;refine rn 4 ?_;rw[S8 qX];exact⟨IQ,O,Zf _ _,hF.same⟩
 refine rn 6 ?_;have hgo:Ke t=true/\Do t L pick=true:=qX
 refine Yb (chFill_c L pick (good_len hgo.2) hLs t LA PA lc pc _ _ _ _ x.cells (hF.rep hL) (hF.rep hP) (hF.rep hX) ⟨hol,EV hgo.1,hsz,hmx⟩<|hG.ext hF.same) ?_;rintro _ w ⟨y,rfl,hRt,hE⟩;have hY:=RX.made (ids:=[b3,b2,b1]) hF.same.size (λx hx=>hF.lt_ids (aS hx)) hRt;have hyp:=Hc hRt;have hF:=hF.ext hE;clear hE hRt;have hfb:=WH hLs pick t hmx;refine rn 1 ?_;intro b4 w hb4 hF hE;have hY:=hY.alloc hE hb4;refine rn 13 ⟨λhc1=>?_,λhc1=>?_⟩
 ·
  refine rn 2<|Da (w':=w) (v:=.agg #[J 0,I [],aQ,aQ]) Ib ?_;refine rn 1 ?_;intro w hF hE;have hY:=hY.store hE qJ;refine rn 4 ?_;rw[show Ai t L pick=(zeroT,8) by rw[Xs hgo,tQ (by rw[<-hyp.1];simp_all)]];exact⟨IQ,O,Zf _ _,hF.same⟩
 refine rn 4<|Ta (Up (Cc L pick t).val fX _ _ y.v.cells (Hc hY.rep).2.2.2.2 (Ae _ fX)<|hG.ext hF.same) ?_;intro w hF hE;have hY:=hY.ext hE;refine rn 5 ⟨λhc2=>?_,λhc2=>?_⟩
 ·
  refine rn 2<|Da (w':=w) (v:=.agg #[J 0,I [],aQ,aQ]) Ib ?_;refine rn 1 ?_;intro w hF hE;have hY:=hY.store hE qJ;refine rn 4 ?_;rw[show Ai t L pick=(zeroT,1) by rw[Xs hgo,uQ (by rw[<-hyp.1];simp_all),tQ qX]];exact⟨IQ,O,Zf _ _,hF.same⟩
 refine rn 8 ?_;intro w hF hE;have hY:=hY.store hE qJ;refine rn 4 ?_;rw[show Ai t L pick=((Cc L pick t).val,0) by rw[Xs hgo,uQ (by rw[<-hyp.1];simp_all),uQ qX]];have hYd:=hY.done;exact⟨y.v,O,(Hc hYd).2.2.2.2,hF.same⟩
open Go.RowKit
section
variable {P:Program}{R:Exit->Act->World->Prop}{n:Nat}{k:Kt}{s:Nat->Value}{w:World}{ops:List Oper}{zs:Lt}
def Wg.slots{L:Array Bool}{m:Nat}{C:World->Prop}{l:List (Nat × Value)}(hs:AllEq s l)(h:∀s',Wg P R n ops k zs L m C (Ch s' l) w):Wg P R n ops k zs L m C s w:=by
  have:=h s
  rwa [<-hs.eq]at this
end
def Be(ops:List Oper)(i:Nat):List Nat:=match ops[i]? with
  | some o=>(o.after.toList.filter λe=>Region.binds .any e).map (·.on)
  | none=>[]
def lowOk(ops:List Oper):Bool:=(List.range (aL ops)).all λi=>(Be ops i).all λd=>decide (d<i)
def Clo(ops:List Oper)(S:Nat->Bool):Prop:=∀i,i<aL ops->S i=true->∀d∈Be ops i,S d=true
def YK(i:Nat)(S:Nat->Bool):Nat->Bool:=λk=>k==i || S k
def GW(l:Array Bool):Nat:=l.toList.count false
section
variable {P:Program}{R:Exit->Act->World->Prop}{n:Nat}{k:Kt}{ops:List Oper}{zs:Lt}{C:World->Prop}
def Qs{next:(World->Prop)->(Nat->Value)->World->Prop}{s:Nat->Value}{w:World}{K:Act->World->Prop}(hz:zs.contains j=false)
    (hk:∀C' s' w',next C' s' w'->K (Yi n s') w') (h:MQ P n ops zs j next C s w):opStep P ops.toArray j K (Yi n s) w:=by
  unfold MQ at h;cases ho:ops[j]? with
  | none =>
    rw[ho]at h;exact h.elim
  | some o =>
    rw[ho]at h;have hoA:ops.toArray[j]? = some o:=aS ho
    have fin:∀(s':Nat->Value)(w':World),Dk (zs.contains j) zs.D C (λC'=>next C' s') w'->K (Yi n s') w':=by
      intro s' w' hh;unfold Dk at hh;rw[tQ (by rw[hz];decide)]at hh;obtain⟨C',-,-,hD⟩:=hh;exact hk _ _ _ hD
    unfold opStep;simp only[hoA];rw[wanted_eq];simp only[]at h;split
    ·rename_i hw1
     rw[uQ hw1]at h;unfold StepN;rw[Li];generalize (execOp (ev n s) o).run P w=r at *;cases r with
     | ok nx w' =>
       cases nx <;> simp only[]at h ⊢
       case value v=>rw[Tg];exact fin _ _ h
       case skip=>rw[Tg];exact fin _ _ h
       case enter f args=>exact h.mono λe w'' ⟨v,he,hk⟩=>⟨v,he,by dsimp only;rw[Tg];exact fin _ _ hk⟩
     | halt x w'=>simp only[]at h
    rename_i hw1
    rw[tQ hw1]at h;rw[Tg];exact fin _ _ h
theorem DA{i:Nat}{o:Oper}(ho:ops[i]? = some o){d:Nat}:d∈Be ops i↔∃e∈o.after,Region.binds .any e=true/\e.on=d:=by grind [Be]
theorem V8(h:j∈Region.ready .any ops.toArray listed):listed.getD j true=false/\j<aL ops/\∀d∈Be ops j,listed.getD d false=true:=by
  obtain⟨h1,o,ho,h2⟩:=mem_ready.1 h;grind [DA]
theorem CP(h1:listed.getD j true=false)(h2:j<aL ops)(h3:∀d∈Be ops j,listed.getD d false=true):j∈Region.ready .any ops.toArray listed:=by
  have ho':ops[j]? = some ops[j]:=qJ
  refine mem_ready.2 ⟨h1,ops[j],by simpa using ho',λe he hb=>h3 _<|(DA ho').2 ⟨e,he,hb,O⟩⟩
def UK{l:Array Bool}{i:Nat}(h:i<l.size)(a b:Bool):l.getD i a=l.getD i b:=by simp[h]
theorem FH{l:Array Bool}{i:Nat}(h:l.getD i true=false):GW (l.setIfInBounds i true)+1=GW l:=by
  have hi:i<l.size:=qJ
  have hv:l.toList[i]'(aS hi)=false:=qX
  grind [GW]
def Does(P:Program)(n:Nat)(ops:List Oper)(i:Nat)(s:Nat->Value)(w:World)(Q:(Nat->Value)->World->Prop):Prop :=
  ∀K:Act->World->Prop,(∀s' w',Q s' w'->K (Yi n s') w')->opStep P ops.toArray i K (Yi n s) w
def StepA(P:Program)(n:Nat)(ops:List Oper)(Inv:(Nat->Bool)->(Nat->Value)->World->Prop)(i:Nat):Prop :=
  ∀(S:Nat->Bool)(s:Nat->Value)(w:World),S i=false->(∀d∈Be ops i,S d=true)->Clo ops S->Inv S s w->Does P n ops i s w (Inv (YK i S))
variable {i d:Nat}{s:Nat->Value}{w w':World}{Q:(Nat->Value)->World->Prop}{op:Op}{ty:Nat}{pos:String}{aft:Array Edge}{g:Option (Nat × Bool)}
def XH{v:Value}(hi:ops[i]? = some ⟨some d,op,ty,pos,aft,g⟩)(hrun:(execOp (ev n s) ⟨some d,op,ty,pos,aft,g⟩).run P w=.ok (.value v) w')(h:Q (Lc s d v) w')(hw:Ka ops n s ⟨some d,op,ty,pos,aft,g⟩=true:=by rfl):Does P n ops i s w Q:=λK hk=>by
  refine Qs (zs:=.of []) (C:=λ_=>True) (next:=λ_ s' w'=>Q s' w') O (λ_ s' w' h=>hk s' w' h) ?_;unfold MQ;rw[hi];simp only[hw,if_true,hrun];exact⟨λ_=>True,λ_ h=>h,trivial,h⟩
def WU{f:FuncId}{args:Array Value}{Qc:Value->World->Prop}(hi:ops[i]? = some ⟨some d,op,ty,pos,aft,g⟩)(hc:Calls P f args w' (Qb Qc))(hrun:(execOp (ev n s) ⟨some d,op,ty,pos,aft,g⟩).run P w=.ok (.enter f args) w')
    (h:∀v w'',Qc v w''->Q (Lc s d v) w'') (hw:Ka ops n s ⟨some d,op,ty,pos,aft,g⟩=true:=by rfl):Does P n ops i s w Q:=λK hk=>by
  refine Qs (zs:=.of []) (C:=λ_=>True) (next:=λ_ s' w'=>Q s' w') O (λ_ s' w' h=>hk s' w' h) ?_;unfold MQ;rw[hi];simp only[hw,if_true,hrun];exact hc.mono λe w'' ⟨v,he,hk⟩=>⟨v,he,λ_=>True,λ_ h=>h,trivial,h v w'' hk⟩
theorem does_dg(R:Exit->Act->World->Prop)(k:Kt)(h:Dg P R n ops (.inv n Q k) (.of []) (.act i .nil) (λ_=>True) s w):Does P n ops i s w Q:=λK hk=>by
  unfold Dg Dw at h;refine Qs (zs:=.of []) O (λC' s' w' hn=>?_) h;unfold Dw at hn;obtain⟨s'',he,hI'⟩:∃s'',Yi n s'=Yi n s''/\Q s'' w':=hn;grind
variable {Inv:(Nat->Bool)->(Nat->Value)->World->Prop}
theorem allS_c(hlow:lowOk ops=true)(hstep:∀i,i<aL ops->StepA P n ops Inv i)
    (hend:∀s w,Inv (λ_=>true) s w->Eg P R n .normal k s w) :
    ∀(m:Nat)(listed:Array Bool)(s:Nat->Value)(w:World),listed.size=aL ops->GW listed=m->Clo ops (λi=>listed.getD i true)->Inv (λi=>listed.getD i true) s w->Wg P R n ops k (.of []) listed m (λ_=>True) s w:=by
  have hS:∀(S S':Nat->Bool)(s:Nat->Value)(w:World),(∀i,S i=S' i)->Inv S s w->Inv S' s w:=λS S' s w h hI=>by rwa [<-funext h]
  have h1:∀i,i<aL ops->∀d∈Be ops i,d<i:=by grind [lowOk]
  have toF:∀s w,Inv (λ_=>true) s w->k.post P R .normal (Yi n s) w:=λs w h=>by
    have:=hend s w h;unfold Eg at this;exact this
  intro m
  induction m with
  | zero =>
    intro listed s w hsz hcn hdn hI;have hn:∀i,listed.getD i true=true:=λi=>by
      cases hv:listed.getD i true with
      | true=>rfl
      | false=>have:=FH hv;omega
    unfold Wg;refine⟨List.eq_nil_iff_forall_not_mem.2 λi hi=>?_,toF _ _<|hS _ _ _ _ hn hI⟩;have:=(V8 hi).1;rw[hn i]at this;cases this
  | succ m ih =>
    intro listed s w hsz hcn hdn hI;have hne:Region.ready .any ops.toArray listed≠[]:=by
      have hex:∃c,c<aL ops/\listed.getD c true=false:=by
        refine Classical.byContradiction λhno=>?_;have hn:∀b∈listed.toList,b=true:=λb hb=>by
          obtain⟨c,hc,rfl⟩:=List.mem_iff_getElem.1 hb;cases hv:listed.toList[c]with
          | true=>rfl
          | false=>exact absurd ⟨c,by rw[<-hsz];simpa using hc,by have hc':c<listed.size:=(aS hc);simpa[hc']using hv⟩ hno
        have:GW listed=0:=List.count_eq_zero.2 λhm=>by cases hn _ hm
        omega
      have hmin:∀(t:Nat),(∃c,c<t/\c<aL ops/\listed.getD c true=false)->∃c,c<aL ops/\listed.getD c true=false/\∀d,d<c->listed.getD d true=true:=λt=>by
        induction t with
        | zero=>rintro⟨c,h,-⟩;omega
        | succ t iht =>
          rintro⟨c,h,hc,hv⟩;by_cases hb:∃c,c<t/\c<aL ops/\listed.getD c true=false
          ·exact iht hb
          refine⟨c, hc, hv, λd hd => ?_⟩;cases hvd:listed.getD d true with
          | true=>rfl
          | false=>exact absurd ⟨d,by_Om,by_Om,hvd⟩ hb
      obtain⟨c0,hc0,hv0⟩:=hex;obtain⟨c,hc,hv,hlow⟩:=hmin (c0+1) ⟨c0,by_Om,hc0,hv0⟩;intro he;have:=CP (listed:=listed) hv hc (λd hd=>by
        have hd':=h1 c hc d hd;rw[UK fX false true];exact hlow d hd')
      rw[he]at this;cases this
    unfold Wg;refine⟨trivial,λh0=>absurd h0 hne,λi hi=>?_⟩;obtain⟨r1,r2,r3⟩:=V8 hi;have r3':∀d∈Be ops i,listed.getD d true=true:=λd hd=>by
      have hd':=h1 i r2 d hd;rw[UK fX true false];exact r3 d hd
    refine hstep i r2 (λi=>listed.getD i true) s w r1 r3' hdn hI _ λs' w' hI'=>?_;rw[tQ (by simp[Lt.contains])];have hi':i<listed.size:=by_Om
    have hg:∀q,(listed.setIfInBounds i true).getD q true=YK i (λk=>listed.getD k true) q:=λq=>by
      unfold YK;by_cases hq:q=i
      ·subst hq;simp[hi']
      rw[getD_set_ne true<|Ne.symm hq];have:(q==i)=false:=aS hq
      rw[this,Bool.false_or]
    refine⟨trivial,?_⟩;have:=ih (listed.setIfInBounds i true) s' w' (aS hsz) (by have:=FH r1;omega) (λq hq (hl:(listed.setIfInBounds i true).getD q true=true) d hd=>show (listed.setIfInBounds i true).getD d true=true from ?_)<|hS _ _ _ _ (λq=>(hg q).symm) hI'
    ·unfold Wg at this
     exact this
    by_cases hdi : d = i
    ·subst hdi
     simp[hi']
    rw[getD_set_ne true<|Ne.symm hdi];by_cases hqi:q=i
    ·subst hqi
     exact r3' d hd
    rw[getD_set_ne true<|Ne.symm hqi]at hl;exact hdn q hq hl d hd
def LX(N:Nat)(hm:P.follows .mixedOrders=true)(hlow:lowOk ops=true)(hI:Inv (λi=>!decide (i<N)) s w.drew)(hstep:∀i,i<N->StepA P n ops Inv i)
    (hend:∀s w,Inv (λ_=>true) s w->Eg P R n .normal k s w) (hN:aL ops=N:=by rfl):Cg P R n (.region id ops.toArray true) k s w:=by
  subst hN;have hS:∀(S S':Nat->Bool)(s:Nat->Value)(w:World),(∀i,S i=S' i)->Inv S s w->Inv S' s w:=λS S' s w h hI=>by rwa [<-funext h]
  have hg:∀i,(Array.replicate (aL ops) false).getD i true = !decide (i<aL ops):=λi=>by
    by_cases h:i<aL ops <;> simp[h]
  have hW:=allS_c (R:=R) (k:=k) hlow hstep hend (aL ops) (Array.replicate (aL ops) false) s w.drew Ca (by simp[GW]) (λi hi (hl:(Array.replicate (aL ops) false).getD i true=true)=>by
    rw[hg i,eZ hi]at hl;cases hl)<|hS _ _ _ _ (λi=>(hg i).symm) hI
  unfold Cg;refine wp_region_any hm<|Uk (zs:=.of []) (Q:=k.post P R .normal) (λ_ _ h=>h) _ (λ_=>True) _ _ _ ?_;unfold Wg at hW;simpa using hW
end
theorem B9{s:Nat->Value}{d:Nat}{v:Value}:Lc s d v d=v:=by simp[Lc]
theorem F6{s:Nat->Value}{d:Nat}{v:Value}(h:e≠d):Lc s d v e=s e:=by
  have:Nat.beq e d=false:=by
    cases hb:Nat.beq e d with
    | false=>rfl
    | true=>simp_all
  grind [Lc]
abbrev Fact:=Nat × Nat × (Option Value->Value->World->Prop)
def Pl(A:Nat × Nat)(S:Nat->Bool)(s:Nat->Value):Option Value:=if S A.1=true then some (s A.2) else none
def AllG(A:Nat × Nat)(S:Nat->Bool)(s:Nat->Value)(w:World)(l:List Fact):Prop:=∀(k:Nat)(f:Fact),l[k]? = some f->S f.1=true->f.2.2 (Pl A S s) (s f.2.1) w
def StabG(l:List Fact):Prop:=∀(k:Nat)(f:Fact),l[k]? = some f->∀(a:Option Value)(v:Value)(w w':World),Same [] w w'->f.2.2 a v w->f.2.2 a v w'
def StabN(l:List Fact):Prop:=∀(k:Nat)(f:Fact),l[k]? = some f->∀(v:Value)(w w':World),Same [] w w'->f.2.2 none v w->f.2.2 (some (.pointer (some ⟨w.heap.size,0,none⟩))) v w'
def StabG.nil:StabG []:=λk f h=>by simp at h
def StabG.cons{f:Fact}{l:List Fact}(h:∀a v w w',Same [] w w'->f.2.2 a v w->f.2.2 a v w')(hl:StabG l):StabG (f::l):=λk g hg=>by
  cases k with
  | zero => obtain rfl : f = g := by simpa using hg
            exact h
  | succ k=>exact hl k g (aS hg)
def StabN.nil:StabN []:=λk f h=>by simp at h
def StabN.cons{f:Fact}{l:List Fact}(h:∀v w w',Same [] w w'->f.2.2 none v w->f.2.2 (some (.pointer (some ⟨w.heap.size,0,none⟩))) v w')(hl:StabN l):StabN (f::l):=λk g hg=>by
  cases k with
  | zero => obtain rfl : f = g := by simpa using hg
            exact h
  | succ k=>exact hl k g (aS hg)
def W_(A:Nat × Nat)(l:List Fact):Bool:=decide (A.2::l.map (·.2.1)).Nodup&&decide (A.1::l.map (·.1)).Nodup
theorem KI{l:List Nat}(hn:l.Nodup){i:Nat}(hi:i<aL l)(hj:j<aL l)(h:l[i]=l[j]):i=j:=by
  have hp:=List.pairwise_iff_getElem.1 hn;grind
theorem Il{i k:Nat}{S:Nat->Bool}(h:k≠i):YK i S k=S k:=by grind [YK]
section
variable {A:Nat × Nat}{S:Nat->Bool}{s:Nat->Value}{w w':World}{l:List Fact}{v:Value}
theorem AllG.put(hI:AllG A S s w l)(hst:StabG l)(hd:W_ A l=true)(k:Nat){i d:Nat}{G:Option Value->Value->World->Prop}(hk:l[k]? = some (i,d,G))(hs:Same [] w w')(hv:G (Pl A S s) v w'):AllG A (YK i S) (Lc s d v) w' l:=by
  unfold W_ at hd;rw[vQ,wQ,wQ,List.nodup_cons,List.nodup_cons]at hd;obtain⟨hkl,hke⟩:=List.getElem?_eq_some_iff.1 hk;have nA1:A.1≠i:=qJ
  have nA2:A.2≠d:=qJ
  have eA:Pl A (YK i S) (Lc s d v)=Pl A S s:=by unfold Pl;rw[Il nA1,F6 nA2]
  intro k' f hf hS;rw[eA];obtain⟨hkl',hke'⟩:=List.getElem?_eq_some_iff.1 hf;by_cases e:k'=k
  ·subst e
   rw[hk]at hf;obtain rfl:=lQ hf;grind [Lc,B9]
  have n1 : f.2.1 ≠ d := λh => e (KI hd.1.2 (i := k') (j := k) (aS hkl') (aS hkl) (by simp[hke, hke', h]));have n2:f.1≠i:=λh=>e<|KI hd.2.2 (i:=k') (j:=k) (aS hkl') (aS hkl) (by simp[hke,hke',h]);rw[Il n2]at hS;rw[F6 n1];exact hst k' f hf _ _ _ _ hs<|hI k' f hf hS
theorem AllG.putA(hI:AllG A S s w l)(hst:StabN l)(hd:W_ A l=true)(hA:S A.1=false)(hs:Same [] w w'):AllG A (YK A.1 S) (Lc s A.2 (.pointer (some ⟨w.heap.size,0,none⟩))) w' l:=by
  unfold W_ at hd;rw[vQ,wQ,wQ,List.nodup_cons,List.nodup_cons]at hd;have eA:Pl A (YK A.1 S) (Lc s A.2<|.pointer<|some ⟨w.heap.size,0,none⟩)=some (.pointer<|some ⟨w.heap.size,0,none⟩):=by grind [Pl,YK,B9]
  intro k f hf hS;rw[eA];obtain⟨hkl,hke⟩:=List.getElem?_eq_some_iff.1 hf;have n1:f.2.1≠A.2:=qJ
  have n2:f.1≠A.1:=qJ
  rw[Il n2]at hS;rw[F6 n1];have:=hI k f hf hS;rw[show Pl A S s=none by unfold Pl;rw[hA];rfl]at this;exact hst k f hf _ _ _ hs this
theorem AllG.ext{S':Nat->Bool}(hI:AllG A S s w l)(h:∀i,S i=S' i):AllG A S' s w l:=by
  have:S=S':=funext h;grind
theorem AllG.at(hI:AllG A S s w l)(k:Nat){i d:Nat}{G:Option Value->Value->World->Prop}(hk:l[k]? = some (i,d,G))(hS:S i=true):G (Pl A S s) (s d) w:=hI k _ hk hS
end
theorem row_all{w:World}{n:Nat}{l:List Value}{ds:List D}(h:w.heap[b]? = some (.cells l.toArray T))(hr:RepL (λ_=>True) w ds l)(hn:aL ds=n)(hm:n<=9223372036854775807):Rep (λ_=>True) w (.slice ds) [W b n n] :=
  Rep.slice_mk hn.symm (gQ _) hm λ_=>⟨_,rfl,l,λj hj=>⟨by
    have e:(⟨b,0,none⟩:Addr).add j=⟨b,0+j,none⟩:=by unfold Addr.add;split <;> simp_all
    rw[e,Ra h<|0+j];simp[hj],trivial⟩,hr⟩
def Xh(v:Value):Option Value->Value->World->Prop:=λ_ u _=>u=v
def rowF(N:Nat)(o:Obj):Option Value->Value->World->Prop:=λ_ u w=>∃b,u=W b N N/\w.heap[b]? = some o
def Gr{v:Value}:∀a u w w',Same [] w w'->Xh v a u w->Xh v a u w':=λ_ _ _ _ _ h=>h
def DF:∀a u w w',Same [] w w'->rowF N o a u w->rowF N o a u w':=λ_ _ _ _ hs ⟨b,e,h⟩=>⟨b,e,Oc h hs⟩
def Yr{v:Value}:∀u w w',Same [] w w'->Xh v none u w->Xh v (some (.pointer (some ⟨w.heap.size,0,none⟩))) u w':=λ_ _ _ _ h=>h
def PF:∀u w w',Same [] w w'->rowF N o none u w->rowF N o (some (.pointer (some ⟨w.heap.size,0,none⟩))) u w':=λ_ _ _ hs ⟨b,e,h⟩=>⟨b,e,Oc h hs⟩
def IG(Z:Nat->World->Prop)(w00:World)(sl:List (Nat × Value))(A:Nat × Nat)(l:List Fact)(S:Nat->Bool)(s:Nat->Value)(w:World):Prop :=
  AllEq s sl/\Same [] w00 w/\AllG A S s w l/\(S A.1=true->∃b,s A.2=V b/\Z b w/\w00.heap.size<=b)
def Av(st:Nat)(J1 J2:(Nat->Bool)->(Nat->Value)->World->Prop)(S:Nat->Bool)(s:Nat->Value)(w:World):Prop:=if S st=true then J2 S s w else J1 S s w
def PL(sl:List (Nat × Value))(A:Nat × Nat)(l:List Fact):Bool:=sl.all λx=>!(A.2::l.map (·.2.1)).contains x.1
structure Ph (Z:Nat->World->Prop) (sl:List (Nat × Value)) (A:Nat × Nat) (l:List Fact):Prop where
  st:StabG l
  sn:StabN l
  di:W_ A l=true
  ap:PL sl A l=true
  z:∀b w w',Same [] w w'->Z b w->Z b w'
theorem AllEq.updS{s:Nat->Value}{d:Nat}{v:Value}:∀{l:List (Nat × Value)},AllEq s l->(∀x∈l,x.1≠d)->AllEq (Lc s d v) l
  | [],_,_=>trivial
  | (e,u)::l,h,hn=>⟨by rw[F6<|hn (e,u) Ca];exact h.1,AllEq.updS h.2 λx hx=>hn x zT⟩
section
variable {P:Program}{R:Exit->Act->World->Prop}{n:Nat}{k:Kt}{ops:List Oper}{Z:Nat->World->Prop}{w00:World}{sl:List (Nat × Value)}{A:Nat × Nat}{l:List Fact}{S:Nat->Bool}{s:Nat->Value}{w w':World}{i d:Nat}{op:Op}{ty:Nat}{pos:String}{aft:Array Edge}{g:Option (Nat × Bool)}{G:Option Value->Value->World->Prop}
theorem IG.put(h:IG Z w00 sl A l S s w)(hp:Ph Z sl A l)(k:Nat)(hk:l[k]? = some (i,d,G))(hs:Same [] w w'){v:Value}(hv:G (Pl A S s) v w'):IG Z w00 sl A l (YK i S) (Lc s d v) w':=by
  obtain⟨h1,h2,h3,h4⟩:=h;have hm:(i,d,G)∈l:=qJ
  have hdi:=hp.di;unfold W_ at hdi;rw[vQ,wQ,wQ,List.nodup_cons,List.nodup_cons]at hdi;have nA1:A.1≠i:=qJ
  have nA2:A.2≠d:=qJ
  have hap:=hp.ap;unfold PL at hap;refine⟨h1.updS λx hx e=>?_,h2.trans hs,h3.put hp.st hp.di k hk hs hv,λhA=>?_⟩
  ·have := List.all_eq_true.1 hap x hx
   have hc:(A.2::l.map (·.2.1)).contains x.1=true:=List.contains_iff_mem.2<|fZ _<|nQ.2 ⟨_,hm,e.symm⟩;rw[hc]at this;cases this
  rw[Il nA1]at hA;obtain⟨b,e,hz,hb⟩:=h4 hA;exact⟨b,by rw[F6 nA2];exact e,hp.z _ _ _ hs hz,hb⟩
theorem IG.putA(h:IG Z w00 sl A l S s w)(hp:Ph Z sl A l)(hA:S A.1=false)(hs:Same [] w w')(hz:Z w.heap.size w'):IG Z w00 sl A l (YK A.1 S) (Lc s A.2 (.pointer (some ⟨w.heap.size,0,none⟩))) w':=by
  obtain⟨h1,h2,h3,h4⟩:=h;have hap:=hp.ap;unfold PL at hap;refine⟨h1.updS λx hx e=>?_,h2.trans hs,h3.putA hp.sn hp.di hA hs,λ_=>⟨_,B9,hz,h2.size⟩⟩;grind
theorem Fi(h:Nat.blt d n=true):ev n s (.tmp d)=s d:=by
  show (bif Nat.blt d n then s d else undef)=s d;grind
def IG.dep(h:IG Z w00 sl A l S s w)(hd:∀d∈Be ops i,S d=true)(k:Nat){k' d':Nat}{G':Option Value->Value->World->Prop}(hk:l[k]? = some (k',d',G'))(hm:(Be ops i).contains k'=true):G' (Pl A S s) (s d') w :=
  h.2.2.1 k _ hk (hd k'<|List.contains_iff_mem.1 hm)
def Ht(hp:Ph Z sl A l)(k:Nat)(hk:l[k]? = some (i,d,G))(hi:ops[i]? = some ⟨some d,op,ty,pos,aft,g⟩)
    (h:∀S s w,(∀d∈Be ops i,S d=true)->IG Z w00 sl A l S s w->∃v w',(execOp (ev n s) ⟨some d,op,ty,pos,aft,g⟩).run P w=.ok (.value v) w'/\Same [] w w'/\G (Pl A S s) v w')
    (hw:∀s,Ka ops n s ⟨some d,op,ty,pos,aft,g⟩=true:=by exact λ_=>rfl):StepA P n ops (IG Z w00 sl A l) i:=λS s w hS hd _ hI=>by
  obtain⟨v,w',hr,hs,hG⟩:=h S s w hd hI;exact XH hi hr (hI.put hp k hk hs hG)<|hw s
def QN(hp:Ph Z sl A l)(k:Nat)(hk:l[k]? = some (i,d,G))(hi:ops[i]? = some ⟨some d,op,ty,pos,aft,g⟩)
    (h:∀S s w,(∀d∈Be ops i,S d=true)->IG Z w00 sl A l S s w->∃f args w' Qc,Calls P f args w' (Qb Qc)/\(execOp (ev n s) ⟨some d,op,ty,pos,aft,g⟩).run P w=.ok (.enter f args) w'/\∀v w'',Qc v w''->Same [] w w''/\G (Pl A S s) v w'')
    (hw:∀s,Ka ops n s ⟨some d,op,ty,pos,aft,g⟩=true:=by exact λ_=>rfl):StepA P n ops (IG Z w00 sl A l) i:=λS s w hS hd _ hI=>by
  obtain⟨f,args,w',Qc,hc,hr,hq⟩:=h S s w hd hI;exact WU hi hc hr (λv w'' hQ=>hI.put hp k hk (hq v w'' hQ).1 (hq v w'' hQ).2)<|hw s
def g_cp(hp:Ph Z sl A l)(k k':Nat){d':Nat}(hk:l[k]? = some (i,d,G))(hk':l[k']? = some (i',d',G))(hi:ops[i]? = some ⟨some d,.move (.tmp d'),ty,pos,aft,g⟩)(hm:(Be ops i).contains i'=true)(hn:Nat.blt d' n=true)
    (hw:∀s,Ka ops n s ⟨some d,.move (.tmp d'),ty,pos,aft,g⟩=true:=by exact λ_=>rfl):StepA P n ops (IG Z w00 sl A l) i :=
  Ht hp k hk hi (λS s w hd hI=>⟨s d',w,Po<|Fi hn,Same.refl _ _,hI.dep hd k' hk' hm⟩) hw
def PT(hp:Ph Z sl A l)(k k':Nat){d':Nat}(hk:l[k]? = some (i,d,G))(hk':l[k']? = some (i',d',G))(hi:ops[i]? = some ⟨some d,.assign (.tmp d'),ty,pos,aft,g⟩)(hm:(Be ops i).contains i'=true)(hn:Nat.blt d' n=true)
    (hw:∀s,Ka ops n s ⟨some d,.assign (.tmp d'),ty,pos,aft,g⟩=true:=by exact λ_=>rfl):StepA P n ops (IG Z w00 sl A l) i :=
  Ht hp k hk hi (λS s w hd hI=>⟨s d',w,Pm<|Fi hn,Same.refl _ _,hI.dep hd k' hk' hm⟩) hw
def Cq{v:Value}(hp:Ph Z sl A l)(k:Nat)(hk:l[k]? = some (i,d,Xh v))(hi:ops[i]? = some ⟨some d,.move (.tmp e),ty,pos,aft,g⟩)(m:Nat)(he:sl[m]? = some (e,v))(hn:Nat.blt e n=true)
    (hw:∀s,Ka ops n s ⟨some d,.move (.tmp e),ty,pos,aft,g⟩=true:=by exact λ_=>rfl):StepA P n ops (IG Z w00 sl A l) i :=
  Ht hp k hk hi (λS s w hd hI=>⟨v,w,Po ((Fi hn).trans (by
    have:∀{sl:List (Nat × Value)},AllEq s sl->(e,v)∈sl->s e=v:=fun {sl}=>by
      induction sl with
      | nil=>intro _ h;cases h
      | cons x sl ih => intro h hm
                        rcases oQ.1 hm with rfl|hm
                        ·exact h.1
                        exact ih h.2 hm
    exact this hI.1<|List.mem_of_getElem? he)),Same.refl _ _,O⟩) hw
def St{t m o' len cap d':Nat}{kk:IntKind}{j:Int}(hp:Ph Z sl A l)(k k':Nat)(hk:l[k]? = some (i,d,Xh (.pointer (some ⟨b,o',none⟩))))(hk':l[k']? = some (i',d',Xh (W b len cap)))(hi:ops[i]? = some ⟨some d,.indexAddr t (.tmp d') (.const (.int kk j)),ty,pos,aft,g⟩)
    (hT:Se P t e m) (hm:(Be ops i).contains i'=true) (hn:Nat.blt d' n=true) (h0:0<=j) (h1:j<len) (ho:0+j.toNat*m=o') (hw:∀s,Ka ops n s ⟨some d,.indexAddr t (.tmp d') (.const (.int kk j)),ty,pos,aft,g⟩=true:=by exact λ_=>rfl):StepA P n ops (IG Z w00 sl A l) i :=
  Ht hp k hk hi (λS s w hd hI=>⟨_,w,Ua o' hT ((Fi hn).trans (hI.dep hd k' hk' hm)) rfl h0 h1 ho,Same.refl _ _,rfl⟩) hw
def Vt{t m d':Nat}{a:Addr}(hp:Ph Z sl A l)(k k':Nat)(hk:l[k]? = some (i,d,Xh (.agg lv.toArray)))(hk':l[k']? = some (i',d',Xh (.pointer (some a))))(hi:ops[i]? = some ⟨some d,.load t (.tmp d'),ty,pos,aft,g⟩)
    (ha:∀w,(isAgg t).run P w=.ok true w) (hs:∀w,(sizeOf t).run P w=.ok m w) (hl:aL lv=m) (hm:(Be ops i).contains i'=true) (hn:Nat.blt d' n=true) (hc:∀w,Same [] w00 w->∀j (h:j<aL lv),w.cell? (a.add j)=some lv[j])
    (hw:∀s,Ka ops n s ⟨some d,.load t (.tmp d'),ty,pos,aft,g⟩=true:=by exact λ_=>rfl):StepA P n ops (IG Z w00 sl A l) i :=
  Ht hp k hk hi (λS s w hd hI=>⟨_,w,Qa ha hs ((Fi hn).trans (hI.dep hd k' hk' hm)) hl<|hc w hI.2.1,Same.refl _ _,rfl⟩) hw
def XC(dl:List (Nat × Value))(hp:Ph Z sl A l)(k:Nat)(hk:l[k]? = some (i,d,rowF N o))(hi:ops[i]? = some ⟨some d,op,ty,pos,aft,g⟩)
    (hdl:∀S s w,(∀d∈Be ops i,S d=true)->IG Z w00 sl A l S s w->AllEq s dl) (hr:∀s w,(execOp (ev n (Ch s dl)) ⟨some d,op,ty,pos,aft,g⟩).run P w=.ok (.value (.slice (some ⟨w.heap.size,0,none⟩) N N)) (w.alloc o))
    (hw:∀s,Ka ops n s ⟨some d,op,ty,pos,aft,g⟩=true:=by exact λ_=>rfl):StepA P n ops (IG Z w00 sl A l) i :=
  Ht hp k hk hi (λS s w hd hI=>⟨_,_,by have:=hr s w;rwa [<-(hdl S s w hd hI).eq]at this,(Same.alloc w o).mono Ca,w.heap.size,rfl,heap_alloc_new w o⟩) hw
def g_al{t:TypeId}(hp:Ph (λb w=>w.heap[b]? = some o) sl A l)(hi:ops[A.1]? = some ⟨some A.2,.alloc t,ty,pos,aft,g⟩)(hz:∀w,(zeroValue t).run P w=.ok z w)(ho:(.cells z.cells t:Obj)=o)
    (hw:∀s,Ka ops n s ⟨some A.2,.alloc t,ty,pos,aft,g⟩=true:=by exact λ_=>rfl):StepA P n ops (IG (λb w=>w.heap[b]? = some o) w00 sl A l) A.1:=λS s w hS hd _ hI=>by
  subst ho;exact XH hi (Ru hz) (hI.putA hp hS ((Same.alloc w _).mono Ca)<|heap_alloc_new w _)<|hw s
variable {st:Nat}{J1 J2:(Nat->Bool)->(Nat->Value)->World->Prop}
def Does.mono{Q Q':(Nat->Value)->World->Prop}(h:Does P n ops i s w Q)(hq:∀s w,Q s w->Q' s w):Does P n ops i s w Q':=λK hk=>h K λs w h=>hk s w<|hq s w h
def StepA.ahead(h:StepA P n ops J1 i)(hm:(Be ops st).contains i=true:=by kernel_rfl)(hl:decide (i<st/\st<aL ops)=true:=by kernel_rfl):StepA P n ops (Av st J1 J2) i:=λS s w hS hd hc hI=>by
  have hl:=jZ hl;have hst:S st=false:=by
    cases e:S st with
    | false=>rfl
    | true =>
      rw[hc st hl.2 e i<|List.contains_iff_mem.1 hm]at hS;cases hS
  unfold Av at hI ⊢;rw[tQ (by rw[hst];decide)]at hI;exact (h S s w hS hd hc hI).mono λs w h=>by rw[tQ (by rw[Il fX,hst];decide)];exact h
def StepA.behind(h:StepA P n ops J2 i)(hm:(Be ops i).contains st=true:=by kernel_rfl)(hne:decide (st≠i)=true:=by kernel_rfl):StepA P n ops (Av st J1 J2) i:=λS s w hS hd hc hI=>by
  have hst:=hd st<|List.contains_iff_mem.1 hm;unfold Av at hI ⊢;rw[uQ hst]at hI;exact (h S s w hS hd hc hI).mono λs w h=>by rw[uQ (by rw[Il<|jZ hne];exact hst)];exact h
def StepA.both(h1:StepA P n ops J1 i)(h2:StepA P n ops J2 i)(hne:decide (st≠i)=true):StepA P n ops (Av st J1 J2) i:=λS s w hS hd hc hI=>by
  unfold Av at hI ⊢;rw[show YK i S st=S st from Il<|jZ hne];by_cases hst:S st=true
  ·rw[uQ hst]at hI
   exact (h2 S s w hS hd hc hI).mono λs w h=>by rw[uQ hst];exact h
  rw[tQ hst]at hI;exact (h1 S s w hS hd hc hI).mono λs w h=>by rw[tQ hst];exact h
theorem StepA.at(h:∀S s w,S st=false->(∀d∈Be ops st,S d=true)->Clo ops S->J1 S s w->Does P n ops st s w (J2 (YK st S))):StepA P n ops (Av st J1 J2) st:=λS s w hS hd hc hI=>by
  unfold Av at hI ⊢;rw[tQ (by rw[hS];decide)]at hI;exact (h S s w hS hd hc hI).mono λs w h=>by rw[uQ (by unfold YK;simp)];exact h
theorem below{Q:Nat->Prop}{m:Nat}(h:∀i,i<m->Q i)(hm:Q m):∀i,i<m+1->Q i:=λi hi=>by
  grind
theorem NL{Q:Nat->Prop}:∀i,i<0->Q i:=qJ
end
attribute [irreducible] StepA Does
def rd1(ops:List Oper)(m i:Nat):Bool:=!m.testBit i&&((ops[i]?).map (·.after.all λe=>!Region.binds .any e || m.testBit e.on)).getD false
def rdB(ops:List Oper)(m:Nat):List Nat:=(List.range (aL ops)).filter (rd1 ops m)
def frB(ops:List Oper)(m i:Nat):Bool:=match ops[i]? with
  | none=>false
  | some oi=>(List.range (aL ops)).all λj=>j==i || m.testBit j || match ops[j]? with
      | some oj=>oj.after.any (λe=>Region.binds .any e&&e.on==i) || oi.apart ops.toArray oj
      | none=>true
def W3(ops:List Oper):Bool->Nat->Ord->Nat->Bool
  | _,n,.nil,m=>n==0&&(rdB ops m).isEmpty
  | _,n,.free i r,m=>n != 0&&(decide (i<aL ops)&&(rd1 ops m i&&(frB ops m i&&W3 ops true (n-1) r (Nat.lor m (Nat.shiftLeft 1 i)))))
  | top,n,.act i r,m=>n != 0&&(decide (i<aL ops)&&((!top || rdB ops m==[i])&&W3 ops true (n-1) r (Nat.lor m (Nat.shiftLeft 1 i))))
  | top,n,.alt i r s,m=>n != 0&&(decide (i<aL ops)&&((!top || rdB ops m==i::s.heads)&&(W3 ops true (n-1) r (Nat.lor m (Nat.shiftLeft 1 i))&&W3 ops false n s m)))
  | _,_,.goto _ _,_=>false
structure Lm (L:Array Bool) (N m:Nat):Prop where
  sz:L.size=N
  bit:∀i,L.getD i false=m.testBit i
theorem Lm.start(N:Nat):Lm (Array.replicate N false) N 0:=⟨Ca,λi=>by
  rw[Nat.zero_testBit];by_cases h:i<N <;> simp[h]⟩
theorem Lm.hi{L:Array Bool}{N m i:Nat}(h:Lm L N m)(hi:i<N):L.getD i true=m.testBit i:=by
  rw[<-h.bit i];have:i<L.size:=by rw[h.sz];exact hi
  grind
def Lm.set{L:Array Bool}{m i:Nat}(h:Lm L N m)(hi:i<N):Lm (L.setIfInBounds i true) N (Nat.lor m (Nat.shiftLeft 1 i)):=⟨by simpa using h.sz,λj=>by
  have hs:i<L.size:=by rw[h.sz];exact hi
  show _=(m ||| 1 <<< i).testBit j;rw[Nat.testBit_or,Nat.one_shiftLeft,Nat.testBit_two_pow,<-h.bit j];by_cases e:i=j
  ·subst e;simp[hs]
  rw[dZ e, Bool.or_false];by_cases hj:j<L.size
  ·simp[hj,e]
  simp[hj]⟩
section
variable {ops:List Oper}{L:Array Bool}{m:Nat}
def Lm.ready(h:Lm L (aL ops) m):Region.ready .any ops.toArray L=rdB ops m:=by
  unfold Region.ready rdB;rw[show ops.toArray.size=aL ops by simp];refine List.filter_congr λi hi=>?_;rw[List.mem_range]at hi;unfold rd1;rw[h.hi hi];have e:ops.toArray[i]? = ops[i]?:=Ca
  rw[e];have e2:(λe:Edge=>!Region.binds .any e || L.getD e.on false)=λe=>!Region.binds .any e || m.testBit e.on:=funext λe=>by rw[h.bit]
  rw[e2]
def Lm.contains(h:Lm L (aL ops) m){i:Nat}(hi:i<aL ops)(hr:rd1 ops m i=true):(Region.ready .any ops.toArray L).contains i=true:=by
  rw[h.ready,List.contains_iff_mem];exact List.mem_filter.2 ⟨List.mem_range.2 hi,hr⟩
def Lm.free(h:Lm L (aL ops) m){i:Nat}(hf:frB ops m i=true):Region.free .any ops.toArray L i=true:=by
  unfold frB at hf;unfold Region.free;have e:∀i:Nat,ops.toArray[i]? = ops[i]?:=λi=>List.getElem?_toArray;rw[e];cases ho:ops[i]? with
  | none =>
    rw[ho]at hf;cases hf
  | some oi =>
    rw[ho]at hf;simp only[]at hf ⊢;rw[show ops.toArray.size=aL ops by simp];rw[List.all_eq_true]at hf ⊢;intro j hj;have:=hf j hj;rw[h.hi<|List.mem_range.1 hj,e];exact this
theorem Fx:∀(t:Ord)(top:Bool)(n:Nat)(L:Array Bool)(m:Nat),Lm L (aL ops) m->W3 ops top n t m=true->Dh .any ops.toArray (.of []) top n t L=true
  | .nil, top, n, L, m, h, hm => by
    rw[W3,vQ]at hm;rw[Dh,h.ready,hm.1,hm.2];rfl
  | .free i r, top, n, L, m, h, hm => by
    rw[W3]at hm;simp only[vQ,wQ]at hm;obtain⟨h1,h2,h3,h4,h5⟩:=hm;rw[Dh,h1,h.contains h2 h3,h.free h4,Fx r true (n-1) _ _ (h.set h2) h5];rfl
  | .act i r, top, n, L, m, h, hm => by
    rw[W3]at hm;simp only[vQ,wQ]at hm;obtain⟨h1,h2,h3,h4⟩:=hm;rw[Dh,h1,h.ready,h3,Fx r true (n-1) _ _ (h.set h2) h4];rfl
  | .alt i r s, top, n, L, m, h, hm => by
    rw[W3]at hm;simp only[vQ,wQ]at hm;obtain⟨h1,h2,h3,h4,h5⟩:=hm;rw[Dh,h1,h.ready,h3,Fx r true (n-1) _ _ (h.set h2) h4,Fx s false n _ _ h h5];rfl
  | .goto _ _,top,n,L,m,h,hm=>by rw[W3]at hm;cases hm
theorem GN{order:Ord}(h:W3 ops true (aL ops) order 0=true):Dh .any ops.toArray (.of []) true ops.toArray.size order (Array.replicate ops.toArray.size false)=true:=by grind [Fx,Lm.start]
end
section
variable {P:Program}{R:Exit->Act->World->Prop}{n:Nat}{k:Kt}{s:Nat->Value}{w w0:World}{ops:List Oper}{Ds:List Nat}{bs_:List (Nat × Obj)}
def c_drawM(order:Ord)(hF:FR w0 Ds bs_ w)(h:∀w',FR w0 Ds bs_ w'->Same [] w w'->∃C:World->Prop,C w'/\Dg P R n ops k (.of []) order C s w')(hB:W3 ops true (aL ops) order 0=true:=by kernel_rfl)(hm:P.follows .mixedOrders=true:=by kernel_rfl)(hs:Region.noSelect ops.toArray=true:=by kernel_rfl):Cg P R n (.region id ops.toArray true) k s w:=Vb (.of []) order hF h hm hs (GN hB)
end
theorem x_makeV{P:Program}{w:World}{ρ:Operand->Value}{dst:Option Nat}{ty:TypeId}{pos:String}{aft:Array Edge}{g:Option (Nat × Bool)}{t m bytes:Nat}{x:Operand}{cs:Array Value}(hE:Elems P t e m bytes)(hz0:(P.info? e).map (·.zero)=some (some z))(hc:madeCells z.cells (N*m)=cs)(hx:ρ x=J (N:Int))(hy:ρ y=J (N:Int))(h:N<=1000)(hb:bytes<=1000) :
    (execOp ρ ⟨dst,.makeSlice t x y,ty,pos,aft,g⟩).run P w=.ok (.value (.slice (some ⟨w.heap.size,0,none⟩) N N)) (w.alloc (.cells cs e)):=by
  obtain⟨i,z',hi,hz,hs,hby,-⟩:=hE.info;rw[hi]at hz0;have ez:i.zero=some z:=qJ
  have hle:(i.bytes:Int)*(N:Int)<=281474976710656:=by
    rw[hby];have:bytes*N<=1000*1000:=Nat.mul_le_mul hb h;grind
  have hr:=run_make (P:=P) w t e i z hE.ht hi ez .i64 .i64 N N fX (Int.le_refl _) hle fX;rw[hs,Int.toNat_natCast,hc]at hr;simp[execOp,hx,hy,hr]
abbrev V2(i:UInt8):Tree:=.node 3 [i] [] []
def b1T:Tree:=.node 6 [] [[97],[98]] [V2 49,V2 50]
def l1T:Tree:=.node 6 [] [[97],[98]] [V2 53,V2 50]
def r1T:Tree:=.node 6 [] [[97],[98],[99]] [V2 49,V2 50,V2 51]
def DK:Tree:=.node 6 [] [[97],[98],[99]] [V2 53,V2 50,V2 51]
def b2T:Tree:=.node 6 [] [[97]] [V2 49]
def l2T:Tree:=.node 6 [] [[97]] [V2 50]
def r2T:Tree:=.node 6 [] [] []
def o2T:Tree:=.node 6 [] [[97]] [Sh 0]
def KX:Cf:=⟨[[97]],3,⟨true,V2 49⟩,⟨true,V2 50⟩,noS⟩
def b3T:Tree:=.node 5 [] [] [V2 49,V2 50]
def l3T:Tree:=.node 5 [] [] [V2 49,V2 57,V2 50]
def r3T:Tree:=.node 5 [] [] [V2 49,V2 50,V2 51]
def JX:Tree:=.node 5 [] [] [V2 49,V2 57,V2 50,V2 51]
def mg_one:Ig [] b1T l1T r1T=(DK,[],0):=by kernel_rfl
def mg_two:Ig [] b2T l2T r2T=(o2T,[KX],0):=by kernel_rfl
def VZ:Ig [] b3T l3T r3T=(JX,[],0):=by kernel_rfl
def ch_two:Ai o2T [KX] [2]=(r2T,0):=by kernel_rfl
def cfT_ok:∀c∈[KX],CfS c:=λc hc=>by
  rw[pQ.1 hc];exact⟨⟨.inr ⟨O,Ib⟩,.inr ⟨O,Ib⟩,.inl O,λh=>absurd h Pa,Pa,Pa⟩,Pa,Pa,Pa⟩
theorem NY:Ja o2T<=512/\Hb o2T<=16777216:=by
  have h:decide (Ja o2T<=512/\Hb o2T<=16777216)=true:=by kernel_rfl
  grind
def o2T_hol:HolIn 1 o2T:=λt ht=>⟨0,by_Om,by_Om,by simpa[o2T,Xc,Fd,Sh]using ht⟩
def numQ(j:Nat):List Value:=[J 3,I (Nm (NG (j:Int))),aQ,aQ]
def Y1(j:Nat):List Value:=(List.range 10).flatMap λi=>if i<j then numQ i else [J 0,I [],aQ,aQ]
theorem KT:∀j,j<10->aL (Y1 j)=40
  | 0,_=>rfl|1,_=>rfl|2,_=>rfl|3,_=>rfl|4,_=>rfl|5,_=>rfl|6,_=>rfl|7,_=>rfl|8,_=>rfl|9,_=>rfl
  | n+10,h=>absurd h fX
theorem AW:∀j,j<10->putA (Y1 j).toArray (j*4) (numQ j)=(Y1 (j+1)).toArray
  | 0,_=>by kernel_rfl|1,_=>by kernel_rfl|2,_=>by kernel_rfl|3,_=>by kernel_rfl|4,_=>by kernel_rfl|5,_=>by kernel_rfl|6,_=>by kernel_rfl|7,_=>by kernel_rfl|8,_=>by kernel_rfl|9,_=>by kernel_rfl
  | n+10,h=>absurd h fX
def tenL:List Value:=[J 3,I [48],aQ,aQ,J 3,I [49],aQ,aQ,J 3,I [50],aQ,aQ,J 3,I [51],aQ,aQ,J 3,I [52],aQ,aQ,J 3,I [53],aQ,aQ,J 3,I [54],aQ,aQ,J 3,I [55],aQ,aQ,J 3,I [56],aQ,aQ,J 3,I [57],aQ,aQ]
def OW:Y1 10=tenL:=by kernel_rfl
def XO:Y1 0=[J 0,I [],aQ,aQ,J 0,I [],aQ,aQ,J 0,I [],aQ,aQ,J 0,I [],aQ,aQ,J 0,I [],aQ,aQ,J 0,I [],aQ,aQ,J 0,I [],aQ,aQ,J 0,I [],aQ,aQ,J 0,I [],aQ,aQ,J 0,I [],aQ,aQ]:=by kernel_rfl
def Rf{w w':World}{ad:Addr}{l:List Value}(h:∀j (hj:j<aL l),w.cell? (ad.add j)=some l[j])(hs:Same [] w w'):∀j (hj:j<aL l),w'.cell? (ad.add j)=some l[j]:=((FR.start w []).ext hs).cells0 h
theorem FR.rowF{w0 w:World}{i:List Nat}{ds:List D}{bs_:List (Nat × Obj)}(hF:FR w0 [] bs_ w)(k:Nat){n c:Nat}{l es:List Value}(hi:bs_[k]? = some (b,.cells l.toArray T))(hr:RX w0 i w ds es)(he:l.take (aL es)=es)(hb:b∉i)(hn:aL ds=n)(hnc:n<=c)(hm:c<=9223372036854775807) :
    RX w0 i w [.slice ds] [W b n c]:=by
  refine .one<|Rep.slice_mk hn.symm hnc hm λ_=>⟨_,O,es,λj hj=>⟨?_,?_⟩,hr⟩
  ·have hl : j<aL l := by grind
   rw[hF.cellsAll k hi j hl];grind
  exact⟨hF.ge hi,hF.lt hi,hb,l.toArray,T,hF.heap hi⟩
def Uu{w0 w:World}{bs_:List (Nat × Obj)}(hG:Gl w0)(hF:FR w0 [] bs_ w):∀x∈bs_.map (·.1),8<=x/\x<w.heap.size:=λx hx=>by
  refine⟨?_,hF.lt_ids hx⟩;obtain⟨q,hq,rfl⟩:=nQ.1 hx;have:=(hF.own q hq).2;simp only[List.not_mem_nil,or_false]at this;exact fQ hG.size this
abbrev nA1(i:UInt8):Array Value:=#[J 3,I [i],aQ,aQ]
abbrev nA2(i j:UInt8):Array Value:=#[J 3,I [i],aQ,aQ,J 3,I [j],aQ,aQ]
abbrev kA2:Array Value:=#[I [97],I [98]]
abbrev zA:Array Value:=#[J 0,I [],aQ,aQ]
abbrev nV(i:UInt8):Value:=.agg #[J 3,I [i],aQ,aQ]
def idA:Option Value->List Nat
  | some (.pointer (some a))=>[a.block]
  | _=>[]
def Ns(t:Tree):Option Value->Value->World->Prop:=λ_ u w=>∃x:Tv,u=.agg x.cells.toArray/\Rep (λ_=>True) w (Sa t) x.cells
def BL(u0:World)(own:List Nat)(t:Tree)(cs:List Cf):Option Value->Value->World->Prop:=λa u w=>∃(q:Tv)(A:Option Addr)(c:Nat),u=.tuple #[.agg q.cells.toArray,.slice A (aL cs) c,J 0]/\RX (wE u0) (idA a++own) w [Sa t] q.cells/\RX (wE u0) (idA a++own) w [.slice (cs.map VD)] [.slice A (aL cs) c]
def mvF(u0:World)(own:List Nat)(t:Tree):Option Value->Value->World->Prop:=λa u w=>∃q:Tv,u=.agg q.cells.toArray/\RX (wE u0) (idA a++own) w [Sa t] q.cells
def IZ(u0:World)(own:List Nat)(cs:List Cf):Option Value->Value->World->Prop:=λa u w=>∃(A:Option Addr)(c:Nat),u=.slice A (aL cs) c/\RX (wE u0) (idA a++own) w [.slice (cs.map VD)] [.slice A (aL cs) c]
def DM(ds:List D)(u:Value)(w:World):Prop:=∃A m c,u=.slice A m c/\Rep (λ_=>True) w (.slice ds) [.slice A m c]
abbrev sV(b n c:Nat):Value:=W b n c
abbrev pV(b:Nat):Value:=V b
section
variable {u0:World}{own:List Nat}{t:Tree}{cs:List Cf}
def CD:∀a u w w',Same [] w w'->Ns t a u w->Ns t a u w':=λ_ _ _ _ hs ⟨x,e,h⟩=>⟨x,e,h.ext hs⟩
def RE:∀u w w',Same [] w w'->Ns t none u w->Ns t (some (pV w.heap.size)) u w':=λ_ _ _ hs ⟨x,e,h⟩=>⟨x,e,h.ext hs⟩
def Vz:∀a u w w',Same [] w w'->BL u0 own t cs a u w->BL u0 own t cs a u w':=λ_ _ _ _ hs ⟨q,A,c,e,h,h'⟩=>⟨q,A,c,e,h.ext hs,h'.ext hs⟩
def C0:∀u w w',Same [] w w'->BL u0 own t cs none u w->BL u0 own t cs (some (pV w.heap.size)) u w':=λ_ _ _ hs ⟨q,A,c,e,h,h'⟩=>⟨q,A,c,e,h.alloc hs rfl,h'.alloc hs rfl⟩
def WM:∀a u w w',Same [] w w'->mvF u0 own t a u w->mvF u0 own t a u w':=λ_ _ _ _ hs ⟨q,e,h⟩=>⟨q,e,h.ext hs⟩
def QP:∀u w w',Same [] w w'->mvF u0 own t none u w->mvF u0 own t (some (pV w.heap.size)) u w':=λ_ _ _ hs ⟨q,e,h⟩=>⟨q,e,h.alloc hs rfl⟩
def Lr:∀a u w w',Same [] w w'->IZ u0 own cs a u w->IZ u0 own cs a u w':=λ_ _ _ _ hs ⟨A,c,e,h⟩=>⟨A,c,e,h.ext hs⟩
def Tr:∀u w w',Same [] w w'->IZ u0 own cs none u w->IZ u0 own cs (some (pV w.heap.size)) u w':=λ_ _ _ hs ⟨A,c,e,h⟩=>⟨A,c,e,h.alloc hs rfl⟩
def RX.push{w0 w w':World}{ids:List Nat}{ds:List D}{l:List Value}(h:RX w0 ids w ds l)(hs:Same [] w w')(hb:w.heap.size<=b):RX w0 (b::ids) w' ds l :=
  h.step hs Ca (λx hx=>by rcases oQ.1 hx with rfl|hx;exact .inr hb;exact .inl hx)
end
section
variable {n:Nat}{ops:List Oper}{Z:Nat->World->Prop}{w00 u0:World}{sl:List (Nat × Value)}{H:Nat × Nat}{l:List Fact}{i d:Nat}{ty:Nat}{pos:String}{aft:Array Edge}{g:Option (Nat × Bool)}{own:List Nat}{ats:Array TypeId}
def BZ{ds:List D}{u:Value}{w:World}{a:Option Value}(h:rowF N (.cells lv.toArray T) a u w)(hr:RepL (λ_=>True) w ds lv)(hn:aL ds=N)(hm:N<=9223372036854775807):DM ds u w:=by
  obtain⟨b,rfl,hb⟩:=h;exact⟨_,_,_,O,row_all hb hr hn hm⟩
def JJ{w:World}:DM [] (aQ) w:=⟨_,_,_,rfl,Rep.nil_slice 0 fX none⟩
def Zy{x:Operand}(hp:Ph Z sl H l)(k:Nat)(hk:l[k]? = some (i,d,Ns (.node 6 [] ks xs)))(hi:ops[i]? = some ⟨some d,.call ⟨.value (.func 16),#[x,y],ats⟩,ty,pos,aft,g⟩)
    (h:∀S s w,(∀d∈Be ops i,S d=true)->IG Z w00 sl H l S s w->DM (ks.map Hh) (ev n s x) w/\DM (Mb xs) (ev n s y) w) (hw:∀s,Ka ops n s ⟨some d,.call ⟨.value (.func 16),#[x,y],ats⟩,ty,pos,aft,g⟩=true:=by exact λ_=>rfl):StepA prog n ops (IG Z w00 sl H l) i :=
  QN hp k hk hi (λS s w hd hI=>by
    obtain⟨⟨A,m,c,e1,h1⟩,B,m',c',e2,h2⟩:=h S s w hd hI;refine⟨16,_,_,_,map_c A m c B m' c' w,Yh en_16 O e1 e2,?_⟩;rintro v w'' ⟨rfl,hs⟩;exact⟨hs,⟨6,[],A,m,c,B,m',c'⟩,O,Rep.tree_mk ⟨Pa,Pa⟩ Ca (h1.ext hs)<|h2.ext hs⟩) hw
def IP{x:Operand}(hp:Ph Z sl H l)(k:Nat)(hk:l[k]? = some (i,d,Ns (.node 5 [] [] xs)))(hi:ops[i]? = some ⟨some d,.call ⟨.value (.func 17),#[x],ats⟩,ty,pos,aft,g⟩)
    (h:∀S s w,(∀d∈Be ops i,S d=true)->IG Z w00 sl H l S s w->DM (Mb xs) (ev n s x) w) (hw:∀s,Ka ops n s ⟨some d,.call ⟨.value (.func 17),#[x],ats⟩,ty,pos,aft,g⟩=true:=by exact λ_=>rfl):StepA prog n ops (IG Z w00 sl H l) i :=
  QN hp k hk hi (λS s w hd hI=>by
    obtain⟨A,m,c,e1,h1⟩:=h S s w hd hI;refine⟨17,_,_,_,row_c A m c w,Ij en_17 O e1,?_⟩;rintro v w'' ⟨rfl,hs⟩;exact⟨hs,⟨5,[],none,0,0,A,m,c⟩,O,Rep.tree_mk ⟨Pa,Pa⟩ Ca (Rep.nil_slice 0 fX none)<|h1.ext hs⟩) hw
def st_mg{bT lT rT:Tree}{cs:List Cf}{x y z ix iy iz:Nat}(hp:Ph Z sl H l)(k kx ky kz:Nat)(hk:l[k]? = some (i,d,BL u0 own oT cs))(hx:l[kx]? = some (ix,x,Ns bT))(hy:l[ky]? = some (iy,y,Ns lT))(hz:l[kz]? = some (iz,z,Ns rT))
    (hi:ops[i]? = some ⟨some d,.call ⟨.value (.func 8),#[.tmp x,.tmp y,.tmp z,.const (aQ)],ats⟩,ty,pos,aft,g⟩) (mx:(Be ops i).contains ix=true) (my:(Be ops i).contains iy=true) (mz:(Be ops i).contains iz=true) (nx:Nat.blt x n=true) (ny:Nat.blt y n=true) (nz:Nat.blt z n=true)
    (heq:Ig [] bT lT rT=(oT,cs,0)) (hb:Ja bT<=256/\Hb bT<=16777216) (hl:Ja lT<=256/\Hb lT<=16777216) (hr:Ja rT<=256/\Hb rT<=16777216) (hG:Gl w00) (ho:∀x∈own,8<=x/\x<w00.heap.size) (hZ:∀b w,Z b w->b<w.heap.size)
    (hw:∀s,Ka ops n s ⟨some d,.call ⟨.value (.func 8),#[.tmp x,.tmp y,.tmp z,.const (aQ)],ats⟩,ty,pos,aft,g⟩=true:=by exact λ_=>rfl):StepA prog n ops (IG Z w00 sl H l) i :=
  QN hp k hk hi (λS s w hd hI=>by
    obtain⟨q1,e1,h1⟩:=hI.dep hd kx hx mx;obtain⟨q2,e2,h2⟩:=hI.dep hd ky hy my;obtain⟨q3,e3,h3⟩:=hI.dep hd kz hz mz;refine⟨8,_,_,_,HK [] bT lT rT (λ_=>(CL 40).at) q1 q2 q3 none 0 _ _ _ (λ_=>True) w h1 h2 h3 (Rep.nil_slice 0 fX none) (λq hq=>by cases hq) hb hl hr<|hG.ext hI.2.1,VQ en_8 O ((Fi nx).trans e1) ((Fi ny).trans e2) ((Fi nz).trans e3) O,?_⟩;rintro v w' ⟨q,A',c,rfl,r1,r2,hs⟩;have hid:∀b∈idA (Pl H S s)++own,8<=b/\b<w.heap.size:=λb hb=>by
      rcases mQ.1 hb with hb|hb
      ·unfold Pl at hb
       by_cases hA:S H.1=true
       ·rw[uQ hA]at hb
        obtain⟨b',e,hz,hge⟩:=hI.2.2.2 hA;rw[e]at hb;obtain rfl:b=b':=by simpa[idA]using hb
        exact⟨fQ hG.size hge,hZ _ _ hz⟩
       rw[tQ hA]at hb;cases hb
      exact⟨(ho b hb).1,Nat.lt_of_lt_of_le (ho b hb).2 hI.2.1.size⟩
    rw[heq]at r1 r2 ⊢;exact⟨hs,q,A',c,O,NewB.rx r1 hid,NewB.rx r2 hid⟩) hw
def st_x0{cs:List Cf}{d':Nat}(hp:Ph Z sl H l)(k k':Nat)(hk:l[k]? = some (i,d,mvF u0 own oT))(hk':l[k']? = some (i',d',BL u0 own oT cs))(hi:ops[i]? = some ⟨some d,.extract (.tmp d') 0,ty,pos,aft,g⟩)(hm:(Be ops i).contains i'=true)(hn:Nat.blt d' n=true)
    (hw:∀s,Ka ops n s ⟨some d,.extract (.tmp d') 0,ty,pos,aft,g⟩=true:=by exact λ_=>rfl):StepA prog n ops (IG Z w00 sl H l) i :=
  Ht hp k hk hi (λS s w hd hI=>by
    obtain⟨q,A,c,e,h1,h2⟩:=hI.dep hd k' hk' hm;exact⟨_,w,Yj ((Fi hn).trans e) O,Same.refl _ _,q,O,h1⟩) hw
def JC{cs:List Cf}{d':Nat}(hp:Ph Z sl H l)(k k':Nat)(hk:l[k]? = some (i,d,IZ u0 own cs))(hk':l[k']? = some (i',d',BL u0 own oT cs))(hi:ops[i]? = some ⟨some d,.extract (.tmp d') 1,ty,pos,aft,g⟩)(hm:(Be ops i).contains i'=true)(hn:Nat.blt d' n=true)
    (hw:∀s,Ka ops n s ⟨some d,.extract (.tmp d') 1,ty,pos,aft,g⟩=true:=by exact λ_=>rfl):StepA prog n ops (IG Z w00 sl H l) i :=
  Ht hp k hk hi (λS s w hd hI=>by
    obtain⟨q,A,c,e,h1,h2⟩:=hI.dep hd k' hk' hm;exact⟨_,w,Yj ((Fi hn).trans e) O,Same.refl _ _,A,c,O,h2⟩) hw
def AC{cs:List Cf}{d':Nat}(hp:Ph Z sl H l)(k k':Nat)(hk:l[k]? = some (i,d,Xh (J 0)))(hk':l[k']? = some (i',d',BL u0 own oT cs))(hi:ops[i]? = some ⟨some d,.extract (.tmp d') 2,ty,pos,aft,g⟩)(hm:(Be ops i).contains i'=true)(hn:Nat.blt d' n=true)
    (hw:∀s,Ka ops n s ⟨some d,.extract (.tmp d') 2,ty,pos,aft,g⟩=true:=by exact λ_=>rfl):StepA prog n ops (IG Z w00 sl H l) i :=
  Ht hp k hk hi (λS s w hd hI=>by
    obtain⟨q,A,c,e,h1,h2⟩:=hI.dep hd k' hk' hm;exact⟨_,w,Yj ((Fi hn).trans e) O,Same.refl _ _,O⟩) hw
def Z1(b:Nat)(w:World):Prop:=w.heap[b]? = some (.cells #[J 0,I [],aQ,aQ] 25)
def Z2(u0:World)(own:List Nat)(t:Tree)(b:Nat)(w:World):Prop:=∃q:Tv,w.heap[b]? = some (.cells q.cells.toArray 25)/\RX (wE u0) (b::own) w [Sa t] q.cells
def Z1_st:∀b w w',Same [] w w'->Z1 b w->Z1 b w':=λ_ _ _ hs h=>Oc h hs
def Z2_st{t:Tree}:∀b w w',Same [] w w'->Z2 u0 own t b w->Z2 u0 own t b w':=λ_ _ _ hs ⟨q,h,h'⟩=>⟨q,Oc h hs,h'.ext hs⟩
def l2(u0:World)(own:List Nat)(t:Tree)(cs:List Cf)(p:Nat × Nat)(e:Nat)(q:Nat × Nat)(e':Nat)(r:Nat × Nat):List Fact :=
  [(p.1,p.2,BL u0 own t cs),(p.1+2,q.1,IZ u0 own cs),(p.1+3,q.2,Xh (J 0)),(e,r.1,IZ u0 own cs),(e',r.2,Xh (J 0))]
def AllG.nil{S:Nat->Bool}{s:Nat->Value}{w:World}:AllG H S s w []:=λk f h=>by simp at h
def AllG.cons{S:Nat->Bool}{s:Nat->Value}{w:World}{f:Fact}(h:S f.1=true->f.2.2 (Pl H S s) (s f.2.1) w)(hl:AllG H S s w l):AllG H S s w (f::l):=λk g hg=>by
  cases k with
  | zero => obtain rfl : f = g := by simpa using hg
            exact h
  | succ k=>exact hl k g (aS hg)
def st_st{t:Tree}{cs:List Cf}{p q r:Nat × Nat}{st dv:Nat}(k31 k32 k33 k34:Nat)(h31:l[k31]? = some (p.1,p.2,BL u0 own t cs))(h32:l[k32]? = some (p.1+1,dv,mvF u0 own t))(h33:l[k33]? = some (p.1+2,q.1,IZ u0 own cs))(h34:l[k34]? = some (p.1+3,q.2,Xh (J 0)))
    (hi:ops[st]? = some ⟨none,.store 25 (.tmp H.2) (.tmp dv),ty,pos,aft,g⟩) (hA:Nat.blt H.2 n=true) (hv:Nat.blt dv n=true) (mA:(Be ops st).contains H.1=true:=by kernel_rfl) (mv:(Be ops st).contains (p.1+1)=true:=by kernel_rfl)
    (m37:(Be ops (st+1)).contains st=true:=by kernel_rfl) (m38:(Be ops (st+2)).contains (st+1)=true:=by kernel_rfl) (hsz:decide (st+2<aL ops/\p.1+3<st/\H.1<st)=true:=by kernel_rfl)
    (hw:∀s,Ka ops n s ⟨none,.store 25 (.tmp H.2) (.tmp dv),ty,pos,aft,g⟩=true:=by exact λ_=>rfl) :
    StepA prog n ops (Av st (IG Z1 w00 sl H l) (IG (Z2 u0 own t) w00 sl H (l2 u0 own t cs p (st+1) q (st+2) r))) st:=.at λS s w hS hd hc hI=>by
  have hsz:=jZ hsz;have hJ:=hI;obtain⟨h1,h2,h3,h4⟩:=hJ;have sA:S H.1=true:=hd _<|List.contains_iff_mem.1 mA;obtain⟨b,eb,hz,hb⟩:=h4 sA;obtain⟨x,ex,hx⟩:=hI.dep hd k32 h32 mv;have ea:Pl H S s=some (pV b):=by unfold Pl;rw[sA,uQ rfl,eb]
  rw[ea]at hx;have hF:FR w00 [] [(b,.cells (List.toArray [J 0,I [],aQ,aQ]) 25)] w:=⟨h2,λq hq=>by rw[pQ.1 hq];exact⟨hz,.inl hb⟩,Ca⟩;have s37:S (st+1)=false:=by
    cases e:S (st+1)with
    | false=>rfl
    | true=>rw[hc _ fX e st<|List.contains_iff_mem.1 m37]at hS;cases hS
  have s38:S (st+2)=false:=by
    cases e:S (st+2)with
    | false=>rfl
    | true=>rw[hc _ fX e (st+1)<|List.contains_iff_mem.1 m38]at s37;cases s37
  refine does_dg (λ_ _ _=>True) .done<|f_sg hi hF rZ ((Fi hA).trans eb) ((Fi hv).trans ex) sI0 (λw' hF' hs=>⟨trivial,d_nil<|Va ?_⟩) O O O<|hw s;have eI:Pl H (YK st S) s=some (pV b):=by rw[<-ea];unfold Pl;rw[Il fX]
  refine⟨h1,hF'.same,?_,λ_=>⟨b,eb,⟨x,hF'.heap (i:=0) O,hx.store hs (by simp[idA])⟩,hb⟩⟩;refine .cons (λh=>?_)<|.cons (λh=>?_)<|.cons (λh=>?_)<|.cons (λh=>?_)<|.cons (λh=>?_) .nil
  ·rw[Il (by show p.1 ≠ st;omega)]at h
   have:=h3 k31 _ h31 h;rw[ea]at this;obtain⟨q,A,c,e,g1,g2⟩:=this;rw[eI];exact⟨q,A,c,e,g1.store hs (by simp[idA]),g2.store hs (by simp[idA])⟩
  ·rw[Il (by show p.1 + 2 ≠ st;omega)]at h
   have:=h3 k33 _ h33 h;rw[ea]at this;obtain⟨A,c,e,g1⟩:=this;rw[eI];exact⟨A,c,e,g1.store hs (by simp[idA])⟩
  ·rw[Il (by show p.1 + 3 ≠ st;omega)]at h
   exact h3 k34 _ h34 h
  ·rw[Il (by show st + 1 ≠ st;omega)]at h
   rw[s37]at h;cases h
  rw[Il (by show st + 2 ≠ st;omega)]at h;rw[s38]at h;cases h
end
abbrev nL(i:UInt8):List Value:=[J 3,I [i],aQ,aQ]
theorem Gy{w:World}:∀l:List UInt8,RepL (λ_=>True) w (Mb (l.map λi=>.node 3 [i] [] [])) (l.flatMap nL)
  | []=>RepL.nil_mk
  | i::l=>RepL.cons_mk (c1:=nL i) (Rep.tree_mk ⟨Pa,Pa⟩ Ca (Rep.nil_slice 0 fX none)<|Rep.nil_slice 0 fX none)<|Gy l
theorem strsR{w:World}:∀ks:List Str,(∀k∈ks,aL k<=9223372036854775807)->RepL (λ_=>True) w (ks.map Hh) (ks.map λk=>I k)
  | [],_=>RepL.nil_mk
  | k::ks,h=>RepL.cons_mk (Rep.lit_mk (v:=I k)<|h k Ca)<|strsR ks λx hx=>h x zT
section
variable {n:Nat}{ops:List Oper}{Z:Nat->World->Prop}{w00 w:World}{sl:List (Nat × Value)}{H:Nat × Nat}{l:List Fact}{i k' d':Nat}{S:Nat->Bool}{s:Nat->Value}
def Ur{ds:List D}(hI:IG Z w00 sl H l S s w)(hd:∀d∈Be ops i,S d=true)(k:Nat)(hk:l[k]? = some (k',d',rowF N (.cells lv.toArray T)))(hm:(Be ops i).contains k'=true)(hn:Nat.blt d' n=true)(hr:RepL (λ_=>True) w ds lv)(hN:aL ds=N)(hb:decide (N<=9)=true):DM ds (ev n s (.tmp d')) w:=by
  rw[Fi hn];exact BZ (hI.dep hd k hk hm) hr hN (by have:=jZ hb;omega)
def AF{ds:List D}{A:Option Addr}{m c:Nat}(hI:IG Z w00 sl H l S s w)(hd:∀d∈Be ops i,S d=true)(k:Nat)(hk:l[k]? = some (k',d',Xh (.slice A m c)))(hm:(Be ops i).contains k'=true)(hn:Nat.blt d' n=true)(hr:∀w,Same [] w00 w->Rep (λ_=>True) w (.slice ds) [.slice A m c]):DM ds (ev n s (.tmp d')) w:=by
  rw[Fi hn];exact⟨A,m,c,hI.dep hd k hk hm,hr w hI.2.1⟩
theorem G1{Z1 Z2:Nat->World->Prop}{l1 l2:List Fact}{st:Nat}(hs:AllEq s sl)(h:(decide (st<N)&&decide (H.1<N)&&l1.all λf=>decide (f.1<N))=true):Av st (IG Z1 w sl H l1) (IG Z2 w sl H l2) (λi=>!decide (i<N)) s w:=by
  rw[vQ,vQ,wQ,wQ]at h;unfold Av;rw[tQ (by simp[h.1.1])];refine⟨hs,Same.refl _ _,λk f hf hS=>?_,λhA=>?_⟩
  ·grind
  grind
theorem ZC{J1 J2:(Nat->Bool)->(Nat->Value)->World->Prop}{st:Nat}(h:Av st J1 J2 (λ_=>true) s w):J2 (λ_=>true) s w:=by grind [Av]
end
def sl7(b1:Nat)(b2:Nat):List (Nat × Value):=[(1,sV b1 10 10),(3,sV b2 2 2)]
def l7(u0:World)(own:List Nat)(b1 b2:Nat):List Fact:=[(0,27,Xh (sV b2 2 2)),(1,28,Xh (sV b1 10 10)),(2,29,Xh (.pointer (some ⟨b1,4,none⟩))),(3,30,Xh (.agg (nL 49).toArray)),(4,31,Xh (sV b1 10 10)),(5,32,Xh (.pointer (some ⟨b1,8,none⟩))),(6,33,Xh (.agg (nL 50).toArray)),(7,34,rowF 2 (.cells (([49,50]:List UInt8).flatMap nL).toArray 25)),(8,35,Ns b1T),(9,36,Xh (sV b2 2 2)),(10,37,Xh (sV b1 10 10)),(11,38,Xh (.pointer (some ⟨b1,20,none⟩))),(12,39,Xh (.agg (nL 53).toArray)),(13,40,Xh (sV b1 10 10)),(14,41,Xh (.pointer (some ⟨b1,8,none⟩))),(15,42,Xh (.agg (nL 50).toArray)),(16,43,rowF 2 (.cells (([53,50]:List UInt8).flatMap nL).toArray 25)),(17,44,Ns l1T),(18,45,rowF 3 (.cells (([[97],[98],[99]]:List Str).map λk=>I k).toArray 9)),(19,46,Xh (sV b1 10 10)),(20,47,Xh (.pointer (some ⟨b1,4,none⟩))),(21,48,Xh (.agg (nL 49).toArray)),(22,49,Xh (sV b1 10 10)),(23,50,Xh (.pointer (some ⟨b1,8,none⟩))),(24,51,Xh (.agg (nL 50).toArray)),(25,52,Xh (sV b1 10 10)),(26,53,Xh (.pointer (some ⟨b1,12,none⟩))),(27,54,Xh (.agg (nL 51).toArray)),(28,55,rowF 3 (.cells (([49,50,51]:List UInt8).flatMap nL).toArray 25)),(29,56,Ns r1T),(30,57,BL u0 own DK []),(31,26,BL u0 own DK []),(32,58,mvF u0 own DK),(33,59,IZ u0 own []),(34,60,Xh (J 0))]
def ph7{w0:World}{own:List Nat}{b1 b2:Nat}   : Ph Z1 (sl7 b1 b2) (35,4) (l7 w0 own b1 b2):=⟨by unfold l7;repeat (first|exact StabG.nil|refine StabG.cons ?_ ?_|exact Gr|exact DF|exact CD|exact Vz|exact WM|exact Lr),by unfold l7;repeat (first|exact StabN.nil|refine StabN.cons ?_ ?_|exact Yr|exact PF|exact RE|exact C0|exact QP|exact Tr),Ib,Ib,Z1_st⟩
def ph7b{w0:World}{own:List Nat}{b1 b2:Nat}   : Ph (Z2 w0 own DK) (sl7 b1 b2) (35,4) (l2 w0 own DK [] (31,26) 37 (59,60) 38 (5,6)):=⟨.cons Vz<|.cons Lr<|.cons Gr<|.cons Lr<|.cons Gr .nil,.cons C0<|.cons Tr<|.cons Yr<|.cons Tr<|.cons Yr .nil,Ib,Ib,Z2_st⟩
def sl8(b1:Nat)(b2:Nat)(bt4:Nat)(A4c:Option Addr)(c4c:Nat):List (Nat × Value):=[(1,sV b1 10 10),(3,sV b2 2 2),(4,pV bt4),(5,.slice A4c 0 c4c),(6,J 0)]
def l8(u0:World)(own:List Nat)(b1 b2:Nat):List Fact:=[(0,62,Xh (sV b2 2 2)),(1,63,Xh (W b2 1 2)),(2,64,Xh (sV b1 10 10)),(3,65,Xh (.pointer (some ⟨b1,4,none⟩))),(4,66,Xh (.agg (nL 49).toArray)),(5,67,rowF 1 (.cells (([49]:List UInt8).flatMap nL).toArray 25)),(6,68,Ns b2T),(7,69,Xh (sV b2 2 2)),(8,70,Xh (W b2 1 2)),(9,71,Xh (sV b1 10 10)),(10,72,Xh (.pointer (some ⟨b1,8,none⟩))),(11,73,Xh (.agg (nL 50).toArray)),(12,74,rowF 1 (.cells (([50]:List UInt8).flatMap nL).toArray 25)),(13,75,Ns l2T),(14,76,Ns r2T),(15,77,BL u0 own o2T [KX]),(16,61,BL u0 own o2T [KX]),(17,78,mvF u0 own o2T),(18,79,IZ u0 own [KX]),(19,80,Xh (J 0))]
def ph8{w0:World}{own:List Nat}{b1 b2:Nat}   {bt4:Nat} {A4c:Option Addr} {c4c:Nat}:Ph Z1 (sl8 b1 b2 bt4 A4c c4c) (20,7) (l8 w0 own b1 b2):=⟨by unfold l8;repeat (first|exact StabG.nil|refine StabG.cons ?_ ?_|exact Gr|exact DF|exact CD|exact Vz|exact WM|exact Lr),by unfold l8;repeat (first|exact StabN.nil|refine StabN.cons ?_ ?_|exact Yr|exact PF|exact RE|exact C0|exact QP|exact Tr),Ib,Ib,Z1_st⟩
def ph8b{w0:World}{own:List Nat}{b1 b2:Nat}   {bt4:Nat} {A4c:Option Addr} {c4c:Nat}:Ph (Z2 w0 own o2T) (sl8 b1 b2 bt4 A4c c4c) (20,7) (l2 w0 own o2T [KX] (16,61) 22 (79,80) 23 (8,9)):=⟨.cons Vz<|.cons Lr<|.cons Gr<|.cons Lr<|.cons Gr .nil,.cons C0<|.cons Tr<|.cons Yr<|.cons Tr<|.cons Yr .nil,Ib,Ib,Z2_st⟩
def sl9(b1:Nat)(bt4:Nat)(A4c:Option Addr)(c4c:Nat)(bt7:Nat)(A7c:Option Addr)(c7c:Nat):List (Nat × Value):=[(1,sV b1 10 10),(4,pV bt4),(5,.slice A4c 0 c4c),(6,J 0),(7,pV bt7),(8,.slice A7c 1 c7c),(9,J 0)]
def l9(u0:World)(own:List Nat)(b1 b2:Nat):List Fact:=[(0,82,Xh (sV b1 10 10)),(1,83,Xh (.pointer (some ⟨b1,4,none⟩))),(2,84,Xh (.agg (nL 49).toArray)),(3,85,Xh (sV b1 10 10)),(4,86,Xh (.pointer (some ⟨b1,8,none⟩))),(5,87,Xh (.agg (nL 50).toArray)),(6,88,rowF 2 (.cells (([49,50]:List UInt8).flatMap nL).toArray 25)),(7,89,Ns b3T),(8,90,Xh (sV b1 10 10)),(9,91,Xh (.pointer (some ⟨b1,4,none⟩))),(10,92,Xh (.agg (nL 49).toArray)),(11,93,Xh (sV b1 10 10)),(12,94,Xh (.pointer (some ⟨b1,36,none⟩))),(13,95,Xh (.agg (nL 57).toArray)),(14,96,Xh (sV b1 10 10)),(15,97,Xh (.pointer (some ⟨b1,8,none⟩))),(16,98,Xh (.agg (nL 50).toArray)),(17,99,rowF 3 (.cells (([49,57,50]:List UInt8).flatMap nL).toArray 25)),(18,100,Ns l3T),(19,101,Xh (sV b1 10 10)),(20,102,Xh (.pointer (some ⟨b1,4,none⟩))),(21,103,Xh (.agg (nL 49).toArray)),(22,104,Xh (sV b1 10 10)),(23,105,Xh (.pointer (some ⟨b1,8,none⟩))),(24,106,Xh (.agg (nL 50).toArray)),(25,107,Xh (sV b1 10 10)),(26,108,Xh (.pointer (some ⟨b1,12,none⟩))),(27,109,Xh (.agg (nL 51).toArray)),(28,110,rowF 3 (.cells (([49,50,51]:List UInt8).flatMap nL).toArray 25)),(29,111,Ns r3T),(30,112,BL u0 own JX []),(31,81,BL u0 own JX []),(32,113,mvF u0 own JX),(33,114,IZ u0 own []),(34,115,Xh (J 0))]
def ph9{w0:World}{own:List Nat}{b1 b2:Nat}  {bt4:Nat} {A4c:Option Addr} {c4c:Nat} {bt7:Nat} {A7c:Option Addr} {c7c:Nat}:Ph Z1 (sl9 b1 bt4 A4c c4c bt7 A7c c7c) (35,10) (l9 w0 own b1 b2):=⟨by unfold l9;repeat (first|exact StabG.nil|refine StabG.cons ?_ ?_|exact Gr|exact DF|exact CD|exact Vz|exact WM|exact Lr),by unfold l9;repeat (first|exact StabN.nil|refine StabN.cons ?_ ?_|exact Yr|exact PF|exact RE|exact C0|exact QP|exact Tr),Ib,Ib,Z1_st⟩
def ph9b{w0:World}{own:List Nat}{b1 b2:Nat}  {bt4:Nat} {A4c:Option Addr} {c4c:Nat} {bt7:Nat} {A7c:Option Addr} {c7c:Nat}:Ph (Z2 w0 own JX) (sl9 b1 bt4 A4c c4c bt7 A7c c7c) (35,10) (l2 w0 own JX [] (31,81) 37 (114,115) 38 (11,12)):=⟨.cons Vz<|.cons Lr<|.cons Gr<|.cons Lr<|.cons Gr .nil,.cons C0<|.cons Tr<|.cons Yr<|.cons Tr<|.cons Yr .nil,Ib,Ib,Z2_st⟩
def QT(w0:World)(hG:Gl w0):Calls prog 5 #[] w0 (Qb λv w'=>v=.bool true/\Same [] w0 w'):=by
 refine Ha func5 ntmps5 ?_;intro hF;refine rn 7<|Tj (v:=λb=>sV b 10 10) (o:=.cells #[J 0,I [],aQ,aQ,J 0,I [],aQ,aQ,J 0,I [],aQ,aQ,J 0,I [],aQ,aQ,J 0,I [],aQ,aQ,J 0,I [],aQ,aQ,J 0,I [],aQ,aQ,J 0,I [],aQ,aQ,J 0,I [],aQ,aQ,J 0,I [],aQ,aQ] 25) hF (x_makeV (N:=10) (cs:=#[J 0,I [],aQ,aQ,J 0,I [],aQ,aQ,J 0,I [],aQ,aQ,J 0,I [],aQ,aQ,J 0,I [],aQ,aQ,J 0,I [],aQ,aQ,J 0,I [],aQ,aQ,J 0,I [],aQ,aQ,J 0,I [],aQ,aQ,J 0,I [],aQ,aQ]) (z:=.agg zA) H3 Ib Ib O O Pa Pa) ?_;rintro b1 w hb1 hF -;refine rn 5 ?_;have hF:FR w0 [] [(b1,.cells (Y1 0).toArray 25)] w:=XO▸hF;refine rn 5<|Za (λμ σ w=>∃(j:Nat),μ=10-j/\(j<=10)/\AllEq σ [(1,sV b1 10 10),(2,J<|(j:Int))]/\FR w0 [] [(b1,.cells (Y1 j).toArray 25)] w) _ ⟨0,O,fX,Gc,hF⟩ ?_;rintro μ σ w ⟨j,rfl,hj,hzz,hF⟩;refine Gh hzz 8 ⟨λhc0=>?_,λhc0=>?_⟩
 ·
  refine rn 8<|Ta (num_c (j:Int) fX fX _<|hG.ext hF.same) ?_;rintro w hF -;refine Da (v:=.pointer<|some ⟨b1,j*4,none⟩) (Ua (i:=(j:Int)) (j*4) Wc O O fX fX fX) ?_;refine Cd 0 (l:=numQ j) (cs':=(Y1<|j+1).toArray) hF rZ O (v:=.agg (numQ j).toArray) O O (by simp[one,numQ]) O (by rw[List.size_toArray,KT j fX];show j*4+4<=40;omega) (AW j fX) ?_;rintro w hF -;refine rn 5<|Tc (Le<|((j+1:Nat):Int)) ?_;refine rn 2<|Va ⟨_,?_,j+1,O,fX,Gc,hF⟩;omega
 refine rn 4 ?_;obtain rfl:j=10:=by_Om
 rw[OW]at hF;refine rn 1 ?_;rintro b2 w hb2 hF -;refine rn 4<|Of (λσ w=>∃(q4:Tv),∃(A4c:Option Addr),∃(c4c:Nat),∃(bt4:Nat),(RX (wE w0) [bt4,b2,b1] w [Sa DK] q4.cells)/\AllEq σ [(1,sV b1 10 10),(3,sV b2 2 2),(4,pV bt4),(5,.slice A4c 0 c4c),(6,J 0)]/\FR w0 [] [(bt4,.cells (q4.cells).toArray 25),(b2,.cells kA2 9),(b1,.cells (List.toArray tenL) 25)] w) ?_ ?_
 ·
  have hG0:=hG;have hF:=hF.drew;have hG:=hG0.ext hF.same;have hO:=Uu hG0 hF;have hp:=@ph7 w0 [b2,b1] b1 b2;have hq:=@ph7b w0 [b2,b1] b1 b2;have hK2:∀w',Same [] w.drew w'->Rep (λ_=>True) w' (.slice<|([[97],[98]]:List Str).map Hh) [sV b2 2 2]:=λw' h=>(((hF.ext h).rowX (ids:=[]) (n:=2) 0 rfl (RX.strs (ks:=[[97],[98]]) Ca) Ca rfl fX).rep).weaken λ_ _ _=>trivial;refine LX 39 (Inv:=Av 36 (IG Z1 w.drew (sl7 b1 b2) (35,4)<|l7 w0 [b2,b1] b1 b2)<|IG (Z2 w0 [b2,b1] DK) w.drew (sl7 b1 b2) (35,4)<|l2 w0 [b2,b1] DK [] (31,26) 37 (59,60) 38 (5,6)) Ib Ib ?_ ?_ ?_
  ·exact G1 ae2 O
  ·exact (below (below (below (below (below (below (below (below (below (below (below (below (below (below (below (below (below (below (below (below (below (below (below (below (below (below (below (below (below (below (below (below (below (below (below (below (below (below (below NL
   (.ahead<|Cq hp 0 rfl rfl 1 rfl rfl))
   (.ahead<|Cq hp 1 rfl rfl 0 rfl rfl))
   (.ahead<|St hp 2 1 rfl rfl rfl Wc rfl rfl Pa Pa rfl))
   (.ahead<|Vt (lv:=nL 49) hp 3 2 rfl rfl rfl nZ rZ rfl rfl rfl λw h=>(hF.ext h).part 1 4 rfl rfl))
   (.ahead<|Cq hp 4 rfl rfl 0 rfl rfl))
   (.ahead<|St hp 5 4 rfl rfl rfl Wc rfl rfl Pa Pa rfl))
   (.ahead<|Vt (lv:=nL 50) hp 6 5 rfl rfl rfl nZ rZ rfl rfl rfl λw h=>(hF.ext h).part 1 8 rfl rfl))
   (.ahead<|XC [(30,.agg (nL 49).toArray),(33,.agg (nL 50).toArray)] hp 7 rfl rfl (λS s w hd hI=>⟨hI.dep hd 3 rfl rfl,hI.dep hd 6 rfl rfl,trivial⟩) λs w=>Kd xZ rZ cX Pa Pa Ib))
   (.ahead<|Zy hp 8 rfl rfl λS s w hd hI=>⟨AF hI hd 0 rfl rfl rfl hK2,Ur hI hd 7 rfl rfl rfl (Gy [49,50]) rfl rfl⟩))
   (.ahead<|Cq hp 9 rfl rfl 1 rfl rfl))
   (.ahead<|Cq hp 10 rfl rfl 0 rfl rfl))
   (.ahead<|St hp 11 10 rfl rfl rfl Wc rfl rfl Pa Pa rfl))
   (.ahead<|Vt (lv:=nL 53) hp 12 11 rfl rfl rfl nZ rZ rfl rfl rfl λw h=>(hF.ext h).part 1 20 rfl rfl))
   (.ahead<|Cq hp 13 rfl rfl 0 rfl rfl))
   (.ahead<|St hp 14 13 rfl rfl rfl Wc rfl rfl Pa Pa rfl))
   (.ahead<|Vt (lv:=nL 50) hp 15 14 rfl rfl rfl nZ rZ rfl rfl rfl λw h=>(hF.ext h).part 1 8 rfl rfl))
   (.ahead<|XC [(39,.agg (nL 53).toArray),(42,.agg (nL 50).toArray)] hp 16 rfl rfl (λS s w hd hI=>⟨hI.dep hd 12 rfl rfl,hI.dep hd 15 rfl rfl,trivial⟩) λs w=>Kd xZ rZ cX Pa Pa Ib))
   (.ahead<|Zy hp 17 rfl rfl λS s w hd hI=>⟨AF hI hd 9 rfl rfl rfl hK2,Ur hI hd 16 rfl rfl rfl (Gy [53,50]) rfl rfl⟩))
   (.ahead<|XC [] hp 18 rfl rfl (λS s w hd hI=>trivial) λs w=>Kd wZ sizeOf9 zeroValue9 Pa Pa Ib))
   (.ahead<|Cq hp 19 rfl rfl 0 rfl rfl))
   (.ahead<|St hp 20 19 rfl rfl rfl Wc rfl rfl Pa Pa rfl))
   (.ahead<|Vt (lv:=nL 49) hp 21 20 rfl rfl rfl nZ rZ rfl rfl rfl λw h=>(hF.ext h).part 1 4 rfl rfl))
   (.ahead<|Cq hp 22 rfl rfl 0 rfl rfl))
   (.ahead<|St hp 23 22 rfl rfl rfl Wc rfl rfl Pa Pa rfl))
   (.ahead<|Vt (lv:=nL 50) hp 24 23 rfl rfl rfl nZ rZ rfl rfl rfl λw h=>(hF.ext h).part 1 8 rfl rfl))
   (.ahead<|Cq hp 25 rfl rfl 0 rfl rfl))
   (.ahead<|St hp 26 25 rfl rfl rfl Wc rfl rfl Pa Pa rfl))
   (.ahead<|Vt (lv:=nL 51) hp 27 26 rfl rfl rfl nZ rZ rfl rfl rfl λw h=>(hF.ext h).part 1 12 rfl rfl))
   (.ahead<|XC [(48,.agg (nL 49).toArray),(51,.agg (nL 50).toArray),(54,.agg (nL 51).toArray)] hp 28 rfl rfl (λS s w hd hI=>⟨hI.dep hd 21 rfl rfl,hI.dep hd 24 rfl rfl,hI.dep hd 27 rfl rfl,trivial⟩) λs w=>Kd xZ rZ cX Pa Pa Ib))
   (.ahead<|Zy hp 29 rfl rfl λS s w hd hI=>⟨Ur hI hd 18 rfl rfl rfl (strsR [[97],[98],[99]] Ca) rfl rfl,Ur hI hd 28 rfl rfl rfl (Gy [49,50,51]) rfl rfl⟩))
   (.ahead<|st_mg hp 30 8 17 29 rfl rfl rfl rfl rfl rfl rfl rfl rfl rfl rfl mg_one Pa Pa Pa hG hO λb w h=>Ga h))
   (.ahead<|g_cp hp 31 30 rfl rfl rfl rfl rfl))
   (.ahead<|st_x0 hp 32 31 rfl rfl rfl rfl rfl))
   (.both (JC hp 33 31 rfl rfl rfl rfl rfl) (JC hq 1 0 rfl rfl rfl rfl rfl) rfl))
   (.both (AC hp 34 31 rfl rfl rfl rfl rfl) (AC hq 2 0 rfl rfl rfl rfl rfl) rfl))
   (.ahead<|g_al hp rfl cX rfl))
   (st_st 31 32 33 34 rfl rfl rfl rfl rfl rfl rfl))
   (.behind<|PT hq 3 1 rfl rfl rfl rfl rfl))
   (.behind<|PT hq 4 2 rfl rfl rfl rfl rfl))
  intro s w' hJ;obtain⟨h1,h2,h3,h4⟩:=ZC hJ;obtain⟨bt,eb,⟨q,hq,hV⟩,hb⟩:=h4 rfl;have ea:Pl (35,4) (λ_=>true) s=some (pV bt):=by unfold Pl;rw[uQ rfl];exact xQ some eb
  obtain⟨A,c,e5,hC⟩:=h3 3 _ rfl rfl;have e6:=h3 4 _ rfl rfl;rw[ea]at hC;exact Va ⟨q,A,c,bt,hV,⟨h1.1,h1.2.1,eb,e5,e6,trivial⟩,hF.cons_ext h2 hq hb⟩
 rintro σ w ⟨q4,A4c,c4c,bt4,hV4,hzz,hF⟩;refine J9 hzz 2<|Of (λσ w=>∃(q7:Tv),∃(A7c:Option Addr),∃(c7c:Nat),∃(bt7:Nat),(RX (wE w0) [bt7,bt4,b2,b1] w [Sa o2T] q7.cells)/\(RX (wE w0) [bt7,bt4,b2,b1] w [Sa DK] q4.cells)/\(RX (wE w0) [bt7,bt4,b2,b1] w [.slice<|[KX].map VD] [.slice A7c 1 c7c])/\AllEq σ [(1,sV b1 10 10),(4,pV bt4),(5,.slice A4c 0 c4c),(6,J 0),(7,pV bt7),(8,.slice A7c 1 c7c),(9,J 0)]/\FR w0 [] [(bt7,.cells (q7.cells).toArray 25),(bt4,.cells (q4.cells).toArray 25),(b2,.cells kA2 9),(b1,.cells (List.toArray tenL) 25)] w) ?_ ?_
 ·
  have hG0:=hG;have hF:=hF.drew;have hG:=hG0.ext hF.same;have hO:=Uu hG0 hF;have hp:=@ph8 w0 [bt4,b2,b1] b1 b2 bt4 A4c c4c;have hq:=@ph8b w0 [bt4,b2,b1] b1 b2 bt4 A4c c4c;have hK1:∀w',Same [] w.drew w'->Rep (λ_=>True) w' (.slice<|([[97]]:List Str).map Hh) [W b2 1 2]:=λw' h=>(((hF.ext h).rowF (i:=[]) (n:=1) (c:=2) 1 rfl (RX.strs (ks:=[[97]]) Ca) rfl Ca rfl fX fX).rep).weaken λ_ _ _=>trivial;refine LX 24 (Inv:=Av 21 (IG Z1 w.drew (sl8 b1 b2 bt4 A4c c4c) (20,7)<|l8 w0 [bt4,b2,b1] b1 b2)<|IG (Z2 w0 [bt4,b2,b1] o2T) w.drew (sl8 b1 b2 bt4 A4c c4c) (20,7)<|l2 w0 [bt4,b2,b1] o2T [KX] (16,61) 22 (79,80) 23 (8,9)) Ib Ib ?_ ?_ ?_
  ·exact G1 ae5 O
  ·exact (below (below (below (below (below (below (below (below (below (below (below (below (below (below (below (below (below (below (below (below (below (below (below (below NL
   (.ahead<|Cq hp 0 rfl rfl 1 rfl rfl))
   (.ahead<|Ht hp 1 rfl rfl λS s w hd hI=>⟨_,w,Ml 1 Hd ((Fi rfl).trans (hI.dep hd 0 rfl rfl)) rfl fX,Same.refl _ _,rfl⟩))
   (.ahead<|Cq hp 2 rfl rfl 0 rfl rfl))
   (.ahead<|St hp 3 2 rfl rfl rfl Wc rfl rfl Pa Pa rfl))
   (.ahead<|Vt (lv:=nL 49) hp 4 3 rfl rfl rfl nZ rZ rfl rfl rfl λw h=>(hF.ext h).part 2 4 rfl rfl))
   (.ahead<|XC [(66,.agg (nL 49).toArray)] hp 5 rfl rfl (λS s w hd hI=>⟨hI.dep hd 4 rfl rfl,trivial⟩) λs w=>Kd xZ rZ cX Pa Pa Ib))
   (.ahead<|Zy hp 6 rfl rfl λS s w hd hI=>⟨AF hI hd 1 rfl rfl rfl hK1,Ur hI hd 5 rfl rfl rfl (Gy [49]) rfl rfl⟩))
   (.ahead<|Cq hp 7 rfl rfl 1 rfl rfl))
   (.ahead<|Ht hp 8 rfl rfl λS s w hd hI=>⟨_,w,Ml 1 Hd ((Fi rfl).trans (hI.dep hd 7 rfl rfl)) rfl fX,Same.refl _ _,rfl⟩))
   (.ahead<|Cq hp 9 rfl rfl 0 rfl rfl))
   (.ahead<|St hp 10 9 rfl rfl rfl Wc rfl rfl Pa Pa rfl))
   (.ahead<|Vt (lv:=nL 50) hp 11 10 rfl rfl rfl nZ rZ rfl rfl rfl λw h=>(hF.ext h).part 2 8 rfl rfl))
   (.ahead<|XC [(73,.agg (nL 50).toArray)] hp 12 rfl rfl (λS s w hd hI=>⟨hI.dep hd 11 rfl rfl,trivial⟩) λs w=>Kd xZ rZ cX Pa Pa Ib))
   (.ahead<|Zy hp 13 rfl rfl λS s w hd hI=>⟨AF hI hd 8 rfl rfl rfl hK1,Ur hI hd 12 rfl rfl rfl (Gy [50]) rfl rfl⟩))
   (.ahead<|Zy hp 14 rfl rfl λS s w hd hI=>⟨JJ,JJ⟩))
   (.ahead<|st_mg hp 15 6 13 14 rfl rfl rfl rfl rfl rfl rfl rfl rfl rfl rfl mg_two Pa Pa Pa hG hO λb w h=>Ga h))
   (.ahead<|g_cp hp 16 15 rfl rfl rfl rfl rfl))
   (.ahead<|st_x0 hp 17 16 rfl rfl rfl rfl rfl))
   (.both (JC hp 18 16 rfl rfl rfl rfl rfl) (JC hq 1 0 rfl rfl rfl rfl rfl) rfl))
   (.both (AC hp 19 16 rfl rfl rfl rfl rfl) (AC hq 2 0 rfl rfl rfl rfl rfl) rfl))
   (.ahead<|g_al hp rfl cX rfl))
   (st_st 16 17 18 19 rfl rfl rfl rfl rfl rfl rfl))
   (.behind<|PT hq 3 1 rfl rfl rfl rfl rfl))
   (.behind<|PT hq 4 2 rfl rfl rfl rfl rfl))
  intro s w' hJ;obtain⟨h1,h2,h3,h4⟩:=ZC hJ;obtain⟨bt,eb,⟨q,hq,hV⟩,hb⟩:=h4 rfl;have ea:Pl (20,7) (λ_=>true) s=some (pV bt):=by unfold Pl;rw[uQ rfl];exact xQ some eb
  obtain⟨A,c,e5,hC⟩:=h3 3 _ rfl rfl;have e6:=h3 4 _ rfl rfl;rw[ea]at hC;exact Va ⟨q,A,c,bt,hV,(hV4.ext<|Same.drew w).push h2 hb,hC,⟨h1.1,h1.2.2.1,h1.2.2.2.1,h1.2.2.2.2.1,eb,e5,e6,trivial⟩,hF.cons_ext h2 hq hb⟩
 rintro σ w ⟨q7,A7c,c7c,bt7,hV7,hV4,hC7,hzz,hF⟩;refine J9 hzz 2<|Of (λσ w=>∃(q10:Tv),∃(A10c:Option Addr),∃(c10c:Nat),∃(bt10:Nat),(RX (wE w0) [bt10,bt7,bt4,b2,b1] w [Sa JX] q10.cells)/\(RX (wE w0) [bt10,bt7,bt4,b2,b1] w [Sa DK] q4.cells)/\(RX (wE w0) [bt10,bt7,bt4,b2,b1] w [Sa o2T] q7.cells)/\(RX (wE w0) [bt10,bt7,bt4,b2,b1] w [.slice<|[KX].map VD] [.slice A7c 1 c7c])/\AllEq σ [(1,sV b1 10 10),(4,pV bt4),(5,.slice A4c 0 c4c),(6,J 0),(7,pV bt7),(8,.slice A7c 1 c7c),(9,J 0),(10,pV bt10),(11,.slice A10c 0 c10c),(12,J 0)]/\FR w0 [] [(bt10,.cells (q10.cells).toArray 25),(bt7,.cells (q7.cells).toArray 25),(bt4,.cells (q4.cells).toArray 25),(b2,.cells kA2 9),(b1,.cells (List.toArray tenL) 25)] w) ?_ ?_
 ·
  have hG0:=hG;have hF:=hF.drew;have hG:=hG0.ext hF.same;have hO:=Uu hG0 hF;have hp:=@ph9 w0 [bt7,bt4,b2,b1] b1 b2 bt4 A4c c4c bt7 A7c c7c;have hq:=@ph9b w0 [bt7,bt4,b2,b1] b1 b2 bt4 A4c c4c bt7 A7c c7c;refine LX 39 (Inv:=Av 36 (IG Z1 w.drew (sl9 b1 bt4 A4c c4c bt7 A7c c7c) (35,10)<|l9 w0 [bt7,bt4,b2,b1] b1 b2)<|IG (Z2 w0 [bt7,bt4,b2,b1] JX) w.drew (sl9 b1 bt4 A4c c4c bt7 A7c c7c) (35,10)<|l2 w0 [bt7,bt4,b2,b1] JX [] (31,81) 37 (114,115) 38 (11,12)) Ib Ib ?_ ?_ ?_
  ·exact G1 ae7 O
  ·exact (below (below (below (below (below (below (below (below (below (below (below (below (below (below (below (below (below (below (below (below (below (below (below (below (below (below (below (below (below (below (below (below (below (below (below (below (below (below (below NL
   (.ahead<|Cq hp 0 rfl rfl 0 rfl rfl))
   (.ahead<|St hp 1 0 rfl rfl rfl Wc rfl rfl Pa Pa rfl))
   (.ahead<|Vt (lv:=nL 49) hp 2 1 rfl rfl rfl nZ rZ rfl rfl rfl λw h=>(hF.ext h).part 3 4 rfl rfl))
   (.ahead<|Cq hp 3 rfl rfl 0 rfl rfl))
   (.ahead<|St hp 4 3 rfl rfl rfl Wc rfl rfl Pa Pa rfl))
   (.ahead<|Vt (lv:=nL 50) hp 5 4 rfl rfl rfl nZ rZ rfl rfl rfl λw h=>(hF.ext h).part 3 8 rfl rfl))
   (.ahead<|XC [(84,.agg (nL 49).toArray),(87,.agg (nL 50).toArray)] hp 6 rfl rfl (λS s w hd hI=>⟨hI.dep hd 2 rfl rfl,hI.dep hd 5 rfl rfl,trivial⟩) λs w=>Kd xZ rZ cX Pa Pa Ib))
   (.ahead<|IP hp 7 rfl rfl λS s w hd hI=>Ur hI hd 6 rfl rfl rfl (Gy [49,50]) rfl rfl))
   (.ahead<|Cq hp 8 rfl rfl 0 rfl rfl))
   (.ahead<|St hp 9 8 rfl rfl rfl Wc rfl rfl Pa Pa rfl))
   (.ahead<|Vt (lv:=nL 49) hp 10 9 rfl rfl rfl nZ rZ rfl rfl rfl λw h=>(hF.ext h).part 3 4 rfl rfl))
   (.ahead<|Cq hp 11 rfl rfl 0 rfl rfl))
   (.ahead<|St hp 12 11 rfl rfl rfl Wc rfl rfl Pa Pa rfl))
   (.ahead<|Vt (lv:=nL 57) hp 13 12 rfl rfl rfl nZ rZ rfl rfl rfl λw h=>(hF.ext h).part 3 36 rfl rfl))
   (.ahead<|Cq hp 14 rfl rfl 0 rfl rfl))
   (.ahead<|St hp 15 14 rfl rfl rfl Wc rfl rfl Pa Pa rfl))
   (.ahead<|Vt (lv:=nL 50) hp 16 15 rfl rfl rfl nZ rZ rfl rfl rfl λw h=>(hF.ext h).part 3 8 rfl rfl))
   (.ahead<|XC [(92,.agg (nL 49).toArray),(95,.agg (nL 57).toArray),(98,.agg (nL 50).toArray)] hp 17 rfl rfl (λS s w hd hI=>⟨hI.dep hd 10 rfl rfl,hI.dep hd 13 rfl rfl,hI.dep hd 16 rfl rfl,trivial⟩) λs w=>Kd xZ rZ cX Pa Pa Ib))
   (.ahead<|IP hp 18 rfl rfl λS s w hd hI=>Ur hI hd 17 rfl rfl rfl (Gy [49,57,50]) rfl rfl))
   (.ahead<|Cq hp 19 rfl rfl 0 rfl rfl))
   (.ahead<|St hp 20 19 rfl rfl rfl Wc rfl rfl Pa Pa rfl))
   (.ahead<|Vt (lv:=nL 49) hp 21 20 rfl rfl rfl nZ rZ rfl rfl rfl λw h=>(hF.ext h).part 3 4 rfl rfl))
   (.ahead<|Cq hp 22 rfl rfl 0 rfl rfl))
   (.ahead<|St hp 23 22 rfl rfl rfl Wc rfl rfl Pa Pa rfl))
   (.ahead<|Vt (lv:=nL 50) hp 24 23 rfl rfl rfl nZ rZ rfl rfl rfl λw h=>(hF.ext h).part 3 8 rfl rfl))
   (.ahead<|Cq hp 25 rfl rfl 0 rfl rfl))
   (.ahead<|St hp 26 25 rfl rfl rfl Wc rfl rfl Pa Pa rfl))
   (.ahead<|Vt (lv:=nL 51) hp 27 26 rfl rfl rfl nZ rZ rfl rfl rfl λw h=>(hF.ext h).part 3 12 rfl rfl))
   (.ahead<|XC [(103,.agg (nL 49).toArray),(106,.agg (nL 50).toArray),(109,.agg (nL 51).toArray)] hp 28 rfl rfl (λS s w hd hI=>⟨hI.dep hd 21 rfl rfl,hI.dep hd 24 rfl rfl,hI.dep hd 27 rfl rfl,trivial⟩) λs w=>Kd xZ rZ cX Pa Pa Ib))
   (.ahead<|IP hp 29 rfl rfl λS s w hd hI=>Ur hI hd 28 rfl rfl rfl (Gy [49,50,51]) rfl rfl))
   (.ahead<|st_mg hp 30 7 18 29 rfl rfl rfl rfl rfl rfl rfl rfl rfl rfl rfl VZ Pa Pa Pa hG hO λb w h=>Ga h))
   (.ahead<|g_cp hp 31 30 rfl rfl rfl rfl rfl))
   (.ahead<|st_x0 hp 32 31 rfl rfl rfl rfl rfl))
   (.both (JC hp 33 31 rfl rfl rfl rfl rfl) (JC hq 1 0 rfl rfl rfl rfl rfl) rfl))
   (.both (AC hp 34 31 rfl rfl rfl rfl rfl) (AC hq 2 0 rfl rfl rfl rfl rfl) rfl))
   (.ahead<|g_al hp rfl cX rfl))
   (st_st 31 32 33 34 rfl rfl rfl rfl rfl rfl rfl))
   (.behind<|PT hq 3 1 rfl rfl rfl rfl rfl))
   (.behind<|PT hq 4 2 rfl rfl rfl rfl rfl))
  intro s w' hJ;obtain⟨h1,h2,h3,h4⟩:=ZC hJ;obtain⟨bt,eb,⟨q,hq,hV⟩,hb⟩:=h4 rfl;have ea:Pl (35,10) (λ_=>true) s=some (pV bt):=by unfold Pl;rw[uQ rfl];exact xQ some eb
  obtain⟨A,c,e5,hC⟩:=h3 3 _ rfl rfl;have e6:=h3 4 _ rfl rfl;rw[ea]at hC;exact Va ⟨q,A,c,bt,hV,(hV4.ext<|Same.drew w).push h2 hb,(hV7.ext<|Same.drew w).push h2 hb,(hC7.ext<|Same.drew w).push h2 hb,⟨h1.1,h1.2.1,h1.2.2.1,h1.2.2.2.1,h1.2.2.2.2.1,h1.2.2.2.2.2.1,h1.2.2.2.2.2.2.1,eb,e5,e6,trivial⟩,hF.cons_ext h2 hq hb⟩
 rintro σ w ⟨q10,A10c,c10c,bt10,hV10,hV4,hV7,hC7,hzz,hF⟩;refine J9 hzz 6 ?_;intro b198 w hb198 hF hE;have hV4:=hV4.alloc hE hb198;have hV7:=hV7.alloc hE hb198;have hV10:=hV10.alloc hE hb198;have hC7:=hC7.alloc hE hb198;refine Yb (BJ [KX] [2] A7c (some ⟨b198,0,none⟩) c7c 1 _ _ o2T q7 _ _ hC7.rep (hF.rowS (S:=λ_=>False) 0 O (ds:=[2].map Pd) (n:=1) (RepL.cons_mk (c2:=[]) (Rep.lit_mk (v:=J 2) (show Wx _ from⟨(by decide:(-9223372036854775808:Int)<=2),(by decide:(2:Int)<=9223372036854775807)⟩)) RepL.nil_mk) O fX) cfT_ok hV7.rep o2T_hol NY.1 NY.2<|hG.ext hF.same) ?_;rintro _ w ⟨q13,rfl,hR1,hE⟩;rw[ch_two]at hR1 ⊢;have hV13:=RX.made (w0:=w0) (ids:=[b198,bt10,bt7,bt4,b2,b1]) hF.same.size (λx hx=>hF.lt_ids (aS hx)) hR1;have hF:=hF.ext hE;have hV4:=hV4.ext hE;have hV10:=hV10.ext hE;have hC7:=hC7.ext hE;clear hE hR1;refine rn 4 ?_;intro b199 w hb199 hF hE;have hV4:=hV4.alloc hE hb199;have hV10:=hV10.alloc hE hb199;have hV13:=hV13.alloc hE hb199;have hC7:=hC7.alloc hE hb199;refine rn 4 ?_;obtain⟨adc,cq,hAc,hcq,hcf⟩:=hC7.rep.cf_elem (l:=[KX]) (i:=0) Ca;obtain⟨pA,pn,pc,pk,px,py,pz⟩:=cq;have hpn:pn=aL ([[97]]:List Str):=hcf.n;have hpk:pk=3:=hcf.k;subst hpn hpk;have hpp:=hcf.p;clear hcf;refine c_drawM (bQ [0,1,2,3,4,5,6,7,8,10,11,12,13,14,15,16,17,18]<|.alt 9 (cQ [19,20,21]<|bQ [22,23,24,25,26,27,28,29,30,31,32,33,34,35]<|.act 36<|bQ [37,38,39,40,41,42]<|.alt 43 (.act 44<|.act 45<|bQ [46,47,48,49,50,51,52,53,54,55,56,57,58,59,60,61,62,63,64,65,66,67,68,69]<|cQ [70,71,72]<|bQ [73,74,75,76,77,78,79]<|.act 80<|.act 81<|.free 82<|.free 83 .nil)<|cQ [44,43,45]<|bQ [46,47,48,49,50,51,52,53,54,55,56,57,58,59,60,61,62,63,64,65,66,67,68,69]<|cQ [70,71,72]<|bQ [73,74,75,76,77,78,79]<|.act 80<|.act 81<|.free 82<|.free 83 .nil)<|cQ [19,9,20,21]<|bQ [22,23,24,25,26,27,28,29,30,31,32,33,34,35]<|.act 36<|bQ [37,38,39,40,41,42]<|.alt 43 (.act 44<|.act 45<|bQ [46,47,48,49,50,51,52,53,54,55,56,57,58,59,60,61,62,63,64,65,66,67,68,69]<|cQ [70,71,72]<|bQ [73,74,75,76,77,78,79]<|.act 80<|.act 81<|.free 82<|.free 83 .nil)<|cQ [44,43,45]<|bQ [46,47,48,49,50,51,52,53,54,55,56,57,58,59,60,61,62,63,64,65,66,67,68,69]<|cQ [70,71,72]<|bQ [73,74,75,76,77,78,79]<|.act 80<|.act 81<|.free 82<|.free 83 .nil) hF ?_
 intro w hF hE;have hV4:=hV4.ext hE;have hV10:=hV10.ext hE;have hV13:=hV13.ext hE;have hcq:=Rf hcq hE;have hpp:=hpp.ext hE;refine⟨λwq=>FR w0 [] _ wq,hF,?_⟩;refine rn 1<|Fa O (v:=.bool true) (λw hC=>Ah Vk Pa) ?_;refine rn 3<|Fa O (v:=.bool true) (λw hC=>Ah Vk Pa) ?_;refine rn 4 ?_;refine Fa O (v:=.pointer<|some ⟨b1,20,none⟩) (λw hC=>Ua (i:=5) 20 Wc O O Pa Pa O)<|Fa O (λw hC=>Qa (l:=[J 3,I [53],aQ,aQ]) nZ rZ O O<|hC.part 6 20 O O) ?_;refine rn 1 ?_;refine Fa O (v:=.pointer<|some ⟨b1,8,none⟩) (λw hC=>Ua (i:=2) 8 Wc O O Pa Pa O)<|Fa O (λw hC=>Qa (l:=[J 3,I [50],aQ,aQ]) nZ rZ O O<|hC.part 6 8 O O) ?_;refine rn 1 ?_;refine Fa O (v:=.pointer<|some ⟨b1,12,none⟩) (λw hC=>Ua (i:=3) 12 Wc O O Pa Pa O)<|Fa O (λw hC=>Qa (l:=[J 3,I [51],aQ,aQ]) nZ rZ O O<|hC.part 6 12 O O) ?_
 repeat' first
  |refine Ip ?_ ?_|refine Bh 9<|rn 1 ?_;intro b301 w hb301 hF hE;have hV4:=hV4.alloc hE hb301;have hV10:=hV10.alloc hE hb301;have hV13:=hV13.alloc hE hb301;have hcq:=Rf hcq hE;have hpp:=hpp.ext hE|refine Bh 19<|rn 1 ?_;intro b302 w hb302 hF hE;have hV4:=hV4.alloc hE hb302;have hV10:=hV10.alloc hE hb302;have hV13:=hV13.alloc hE hb302;have hcq:=Rf hcq hE;have hpp:=hpp.ext hE|refine Bh 20<|Mf (map_c (some ⟨b301,0,none⟩) 3 3 (some ⟨b302,0,none⟩) 3 3 _) ?_;intro w hF hE;have hV4:=hV4.ext hE;have hV10:=hV10.ext hE;have hV13:=hV13.ext hE;have hcq:=Rf hcq hE;have hpp:=hpp.ext hE
  |
   refine Bh 21 ?_
   first|refine Mf (Zg (v':=.bool true) (Sw DK DK _ _ _ _ _ hV4.rep (show RX w0 [] _ [Sa DK] [J 6,I [],sV b301 3 3,sV b302 3 3] from RX.tree ⟨by_Om,by_Om⟩ Ca (hF.rowX 0 rfl (RX.strs (ks:=[[97],[98],[99]]) Ca) Ca rfl fX)<|hF.rowX 1 rfl ((RX.append (ds:=[_]) (RX.num _ Ca)<|RX.append (ds:=[_]) (RX.num _ Ca)<|RX.num _ Ca)) Ca rfl fX).rep)<|xQ Value.bool<|Rh _) ?_|refine Mf (Zg (v':=.bool true) (Sw DK DK _ _ _ _ _ hV4.rep (show RX w0 [] _ [Sa DK] [J 6,I [],sV b301 3 3,sV b302 3 3] from RX.tree ⟨by_Om,by_Om⟩ Ca (hF.rowX 1 rfl (RX.strs (ks:=[[97],[98],[99]]) Ca) Ca rfl fX)<|hF.rowX 0 rfl ((RX.append (ds:=[_]) (RX.num _ Ca)<|RX.append (ds:=[_]) (RX.num _ Ca)<|RX.num _ Ca)) Ca rfl fX).rep)<|xQ Value.bool<|Rh _) ?_
   intro w hF hE;have hV4:=hV4.ext hE;have hV10:=hV10.ext hE;have hV13:=hV13.ext hE;have hcq:=Rf hcq hE;have hpp:=hpp.ext hE
  |refine Bh 36<|Hm O (v:=J 3) (Ma oZ<|hcq 1 Ca) hF.su ?_|refine Bh 43<|Hm O (v:=.slice (pA) (aL ([[97]]:List Str)) pc) (Ma mZ<|hcq 0 Ca) hF.su ?_|refine Bh 44<|rn 1 ?_;intro b303 w hb303 hF hE;have hV4:=hV4.alloc hE hb303;have hV10:=hV10.alloc hE hb303;have hV13:=hV13.alloc hE hb303;have hcq:=Rf hcq hE;have hpp:=hpp.ext hE|refine Bh 45<|Mf (Zg (v':=.bool true) (SZ [[97]] [[97]] pA (some ⟨b303,0,none⟩) pc 1 _ _ _ hpp (show RX w0 [] _ [Wa [[97]]] _ from hF.rowX 0 (n:=1) O (RX.strs (ks:=[[97]]) Ca) Ca O fX).rep)<|xQ Value.bool<|eZ O) ?_;intro w hF hE;have hV4:=hV4.ext hE;have hV10:=hV10.ext hE;have hV13:=hV13.ext hE;have hcq:=Rf hcq hE;have hpp:=hpp.ext hE|refine Bh 70<|rn 1 ?_;intro b304 w hb304 hF hE;have hV4:=hV4.alloc hE hb304;have hV10:=hV10.alloc hE hb304;have hV13:=hV13.alloc hE hb304;have hcq:=Rf hcq hE;have hpp:=hpp.ext hE|refine Bh 71<|Mf (row_c (some ⟨b304,0,none⟩) 4 4 _) ?_;intro w hF hE;have hV4:=hV4.ext hE;have hV10:=hV10.ext hE;have hV13:=hV13.ext hE;have hcq:=Rf hcq hE;have hpp:=hpp.ext hE|refine Bh 72<|Mf (Zg (v':=.bool true) (Sw JX JX _ _ _ _ _ hV10.rep (show RX w0 [] _ [Sa JX] [J 5,I [],aQ,sV b304 4 4] from RX.tree ⟨by_Om,by_Om⟩ Ca (RX.nils)<|hF.rowX 0 O ((RX.append (ds:=[_]) (RX.num _ Ca)<|RX.append (ds:=[_]) (RX.num _ Ca)<|RX.append (ds:=[_]) (RX.num _ Ca)<|RX.num _ Ca)) Ca O fX).rep)<|xQ Value.bool<|Rh _) ?_;intro w hF hE;have hV4:=hV4.ext hE;have hV10:=hV10.ext hE;have hV13:=hV13.ext hE;have hcq:=Rf hcq hE;have hpp:=hpp.ext hE|refine Bh 80<|Mf (map_c (none) 0 0 (none) 0 0 _) ?_;intro w hF hE;have hV4:=hV4.ext hE;have hV10:=hV10.ext hE;have hV13:=hV13.ext hE;have hcq:=Rf hcq hE;have hpp:=hpp.ext hE|refine Bh 81<|Mf (Zg (v':=.bool true) (Sw r2T r2T _ _ _ _ _ hV13.rep (show RX w0 [] _ [Sa r2T] [J 6,I [],aQ,aQ] from RX.tree ⟨by_Om,by_Om⟩ Ca (RX.nils) RX.nils).rep)<|xQ Value.bool<|Rh _) ?_;intro w hF hE;have hV4:=hV4.ext hE;have hV10:=hV10.ext hE;have hV13:=hV13.ext hE;have hcq:=Rf hcq hE;have hpp:=hpp.ext hE|refine rn 3 ?_;exact⟨O,hF.same⟩|refine K9 25<|Fa O (v:=.bool true) (λw hC=>Ah Vk Pa) ?_|refine K9 30<|Fa O (v:=.bool true) (λw hC=>Ah Vk Pa) ?_|refine K9 34<|Fa O (v:=.pointer<|some<|adc.add<|0*17) (λw hC=>Ea (i:=0) M_ hAc) ?_|refine K9 35<|Fa O (v:=.pointer<|some<|(adc.add<|0*17).add 1) (λw hC=>He (a:=adc.add<|0*17) GD) ?_|refine K9 37<|Fa O (v:=.bool true) (λw hC=>Ah Vk Pa) ?_|refine K9 41<|Fa O (v:=.pointer<|some<|adc.add<|0*17) (λw hC=>Ea (i:=0) M_ hAc) ?_|refine K9 42<|Fa O (v:=.pointer<|some<|(adc.add<|0*17).add 0) (λw hC=>He (a:=adc.add<|0*17) fa_38_0) ?_|refine K9 49<|Fa O (v:=.bool true) (λw hC=>Ah Vk Pa) ?_|refine K9 54<|Fa O (v:=.bool true) (λw hC=>Ah Vk Pa) ?_|refine K9 59<|Fa O (v:=.pointer<|some ⟨b1,4,none⟩) (λw hC=>Ua (i:=1) 4 Wc O O Pa Pa O) ?_|refine K9 60<|Fa O (λw hC=>Qa (l:=[J 3,I [49],aQ,aQ]) nZ rZ O O<|hC.part 6 4 O O) ?_|refine K9 62<|Fa O (v:=.pointer<|some ⟨b1,36,none⟩) (λw hC=>Ua (i:=9) 36 Wc O O Pa Pa O) ?_|refine K9 63<|Fa O (λw hC=>Qa (l:=[J 3,I [57],aQ,aQ]) nZ rZ O O<|hC.part 6 36 O O) ?_|refine K9 65<|Fa O (v:=.pointer<|some ⟨b1,8,none⟩) (λw hC=>Ua (i:=2) 8 Wc O O Pa Pa O) ?_|refine K9 66<|Fa O (λw hC=>Qa (l:=[J 3,I [50],aQ,aQ]) nZ rZ O O<|hC.part 6 8 O O) ?_|refine K9 68<|Fa O (v:=.pointer<|some ⟨b1,12,none⟩) (λw hC=>Ua (i:=3) 12 Wc O O Pa Pa O) ?_|refine K9 69<|Fa O (λw hC=>Qa (l:=[J 3,I [51],aQ,aQ]) nZ rZ O O<|hC.part 6 12 O O) ?_|refine K9 76<|Fa O (v:=.bool true) (λw hC=>Ah Vk Pa) ?_|refine rn 1 ?_
end Go.Scarf
