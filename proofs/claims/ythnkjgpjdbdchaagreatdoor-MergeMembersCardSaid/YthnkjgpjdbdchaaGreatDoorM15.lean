/- A part of the proof. -/
import Derived.Test.YthnkjgpjdbdchaaGreatDoorM13
set_option linter.all false
set_option maxHeartbeats 8000000
set_option maxRecDepth 10000
namespace Go.Scarf
open Go.RowKit Go.Proofs Go.Proofs.Tryz
theorem Ih{L:List Cf}{pick:List Int}{k:Int}:∀(xs:List Tree)(ks:List Str)(j:Nat)(hj:j<xs.length),
    Lj L pick k ks (xs.take (j+1))=((Lj L pick k ks (xs.take j)).1++(Xt L k (ks.getD j []) (Pi xs[j]) (We L pick xs[j])).1,(Lj L pick k ks (xs.take j)).2++(Xt L k (ks.getD j []) (Pi xs[j]) (We L pick xs[j])).2)
  | [],_,_,hj=>absurd hj Da
  | x :: xs, ks, 0, _ => by
    simp only[List.take_succ_cons,List.take_zero,Lj,List.nil_append,qQ,List.getElem_cons_zero];cases ks <;> rfl
  | x :: xs, ks, j + 1, hj => by
    have ih:=Ih (L:=L) (pick:=pick) (k:=k) xs ks.tail j (by simpa using hj);rw[List.take_succ_cons,Lj,ih,List.take_succ_cons,Lj];have e:ks.tail.getD j []=ks.getD (j+1) []:=by cases ks <;> simp
    simp only[e,List.getElem_cons_succ,sQ]
structure CfS (c:Cf):Prop where
  rig:CfR c
  b:Mb c.b.val<=256/\Qd c.b.val<=16777216
  l:Mb c.l.val<=256/\Qd c.l.val<=16777216
  r:Mb c.r.val<=256/\Qd c.r.val<=16777216
theorem CfS.ok{c:Cf}(h:CfS c):CfOk c:=⟨⟨by have:=h.b;omega,Re _ (by have:=h.b;omega)⟩,⟨by have:=h.l;omega,Re _ (by have:=h.l;omega)⟩,⟨by have:=h.r;omega,Re _ (by have:=h.r;omega)⟩⟩
theorem Y8{s:Sd}(h:SdR s):Oq s=s:=by
  rcases h with rfl|⟨h1,h2⟩
  ·rfl
  unfold Oq;rw[if_pos h1,Xu h2,<-h1]
theorem PO{c:Cf}(h:CfS c)(pk:Int):Mb (Ml c pk).1.val<=256/\Qd (Ml c pk).1.val<=16777216:=by
  obtain⟨r1,r2,r3,-⟩:=h.rig;unfold Ml;split
  ·rw[Y8 r1];exact h.b
  split
  ·rw[Y8 r2];exact h.l
  split
  ·rw[Y8 r3];exact h.r
  simp[noS,zeroT,Mb,Kb,Qd,Dm,Tj]
theorem K_{L:List Cf}(h:∀c∈L,CfS c)(pick:List Int)(i:Int):Mb (Ow L pick i).val<=256/\Qd (Ow L pick i).val<=16777216:=by
  unfold Ow;by_cases hi:i.toNat<L.length
  ·have e : L.getD i.toNat noC = L[i.toNat] := by simp[List.getD, hi]
   rw[e];exact PO (h _ (eQ _)) _
  have e : L.getD i.toNat noC = noC := by simp[List.getD, Nat.not_lt.1 hi]
  rw[e];unfold Ml;have z:Oq noC.b=noS/\Oq noC.l=noS/\Oq noC.r=noS:=⟨rfl,rfl,rfl⟩;rw[z.1,z.2.1,z.2.2];split <;> (try split) <;> (try split) <;> simp[noS,zeroT,Mb,Kb,Qd,Dm,Tj]
theorem C8{L:List Cf}{pick:List Int}{x:Tree}(h:0<=Pi x):We L pick x=Ow L pick (Pi x):=by cases x;rw[We,if_pos h]
theorem MK{L:List Cf}(hL:∀c∈L,CfS c)(pick:List Int)(k:Int)(key:Str)(x:Tree):(Xt L k key (Pi x) (We L pick x)).2.length<=256/\(Xt L k key (Pi x) (We L pick x)).1.length<=1:=by
  unfold Xt;split
  ·split
   ·simp
   split
   ·rename_i h5
    rw[C8 h5.1];have h1:=(K_ hL pick (Pi x)).1;have h2:=Nn (Ow L pick (Pi x)).val;have h3:=Uh (Ow L pick (Pi x)).val.items;refine⟨?_,by simp⟩;show (Ow L pick (Pi x)).val.items.length<=256;omega
   simp
  simp
theorem K9{L:List Cf}(hL:∀c∈L,CfS c)(pick:List Int)(k:Int)(ks:List Str)(xs:List Tree):∀j,j<=xs.length->(Lj L pick k ks (xs.take j)).2.length<=256*j/\(Lj L pick k ks (xs.take j)).1.length<=j
  | 0,_=>by simp[Lj]
  | j + 1, hj => by
    have ih:=K9 hL pick k ks xs j tX;have h1:=MK hL pick k (ks.getD j []) (xs[j]'by_Om);rw[Ih xs ks j tX];simp only[dQ];omega
theorem Yw{L:List Cf}{pick:List Int}{k:Int}{ks:List Str}{xs:List Tree}:∀j,j<=xs.length->∀s∈(Lj L pick k ks (xs.take j)).1,s∈ks\/s=[]
  | 0,_=>λs hs=>by simp[Lj]at hs
  | j + 1, hj => λs hs => by
    rw[Ih xs ks j tX]at hs;rcases mQ.1 hs with hs|hs
    ·exact Yw j tX s hs
    have:s=ks.getD j []:=by
      unfold Xt at hs;split at hs
      ·split at hs
       ·simpa using hs
       split at hs <;> simp at hs
      simp at hs
    rw[this];by_cases hjk:j<ks.length
    ·left;simp[List.getD,hjk]
    right;simp[List.getD,Nat.not_lt.1 hjk]
def HolIn(n:Nat)(x:Tree):Prop:=∀t∈Eh x,∃i,i<n/\i<1000/\t=Si i
theorem ET{n:Nat}{k:Int}{t:Str}{ks:List Str}{xs:List Tree}(h:HolIn n (.node k t ks xs))(h0:0<=Du k t):∃i,i<n/\Du k t=(i:Int):=by
  by_cases hk:k=7
  ·obtain⟨i, hi, hi2, e⟩ := h t (by rw[Eh, if_pos hk];simp)
   refine⟨i,hi,?_⟩;have:=NR hi2;rw[e,hk];exact this
  have : Du k t = -1 := if_pos hk;omega
theorem HolIn.kid{n:Nat}{k:Int}{t:Str}{ks:List Str}{xs:List Tree}(h:HolIn n (.node k t ks xs)){x:Tree}(hx:x∈xs):HolIn n x:=λs hs=>h s (by
  rw[Eh,Ci];exact List.mem_append_right _ (List.mem_flatMap.2 ⟨x,hx,hs⟩))
structure OpT (n:Nat) (x:Tree):Prop where
  hol:HolIn n x
  nod:Pd nodeB x=true
  sz:Mb x<=512
  mx:Qd x<=16777216
theorem OpT.kid{n:Nat}{k:Int}{t:Str}{ks:List Str}{xs:List Tree}(h:OpT n (.node k t ks xs)){x:Tree}(hx:x∈xs):OpT n x :=
  ⟨h.hol.kid hx,(De h.nod).2 x hx,by have:=h.sz;have:=Yf hx;rw[Mb]at *;omega,by have:=h.mx;have:=Ji hx;rw[Qd]at *;omega⟩
theorem HH{L:List Cf}{i:Nat}(h:i<L.length):L.getD ((i:Nat):Int).toNat noC=L[i]:=by simp[List.getD,h]
theorem kidF_no{L:List Cf}{k:Int}{key:Str}{h:Int}{s:Sd}(hs:s.has=false):Xt L k key h s=([],[]):=by unfold Xt;rw[if_neg (by rw[hs];decide)]
theorem HB{L:List Cf}{k:Int}{key:Str}{h:Int}{s:Sd}(hs:s.has=true)(hk:k=6):Xt L k key h s=([key],[s.val]):=by unfold Xt;rw[if_pos hs,if_pos hk]
theorem SM{L:List Cf}{k:Int}{key:Str}{h:Int}{s:Sd}(hs:s.has=true)(hk:¬k=6)(h5:0<=h/\(L.getD h.toNat noC).cls=5):Xt L k key h s=([],s.val.items):=by unfold Xt;rw[if_pos hs,if_neg hk,if_pos h5]
theorem OJ{L:List Cf}{k:Int}{key:Str}{h:Int}{s:Sd}(hs:s.has=true)(hk:¬k=6)(h5:¬(0<=h/\(L.getD h.toNat noC).cls=5)):Xt L k key h s=([],[s.val]):=by unfold Xt;rw[if_pos hs,if_neg hk,if_neg h5]
def FillC(L:List Cf)(pick:List Int)(x:Tree):Prop:=∀(LA PA:Option Addr)(lc pc:Nat)(SL SP S:Nat->Prop)(w0:World)(cs:List Value),Rep SL w0 (.slice (L.map RC)) [.slice LA L.length lc]->Rep SP w0 (.slice (pick.map Kh)) [.slice PA pick.length pc]->Rep S w0 (Ub x) cs->OpT L.length x->Gl w0 ->
  Calls prog 41 #[.agg #[.slice LA L.length lc,.slice PA pick.length pc],.agg cs.toArray] w0 (Be λv w'=>∃y:Sv,v=.agg y.cells.toArray/\Rep (Btw w0 w') w' (Ke (We L pick x)) y.cells/\Same [] w0 w')
theorem M9{M:Nat}{x:Tree}(h:Qd x<=M):x.text.length<=M:=by
  cases x with
  | node k t ks xs=>rw[Qd]at h;show t.length<=M;omega
theorem keys_six{k:Int}{t:Str}{ks:List Str}{xs:List Tree}(h:Pd nodeB (.node k t ks xs)=true)(hk:k=6):ks.length=xs.length:=by
  have h1:=(De h).1;subst hk;unfold nodeB at h1;simp at h1;have h2:=h1.1;unfold Tp at h2;simp at h2;omega
theorem MV(L:List Cf)(pick:List Int)(hlp:L.length=pick.length)(hLs:∀c∈L,CfS c)(k:Int)(t:Str)(ks:List Str)(xs:List Tree)(ih:∀x,x∈xs->FillC L pick x):FillC L pick (.node k t ks xs):=by
  intro LA PA lc pc SL SP S w0 cs hL hP hR hop hG;obtain⟨A,c,B,e,rfl,hk0,ht0,hKs,hX⟩:=hR.tree_inv;have hXl:=hX.slice_len;have hLl:=hL.slice_len;have hPl:=hP.slice_len;simp only[rQ]at hLl hPl;have hsz:=hop.sz;rw[Mb]at hsz;have hxn:=Uh xs;have htm:=M9 hop.mx;have htl:t.length<=140737488355328:=by simp only[Tree.text]at htm;omega
  have hkm:∀s∈ks,s.length<=16777216:=O2 hop.mx;refine Ga func41 O ntmps41 Ib (Md _ _) ?_;have hF:=FR.start w0 [];refine Ja (Fa ?_);refine Bf hF O ?_;intro b1 w hb1 hF hE;refine Bf hF O ?_;intro b2 w hb2 hF hE;refine Td (cs:=#[.bool false,J 0,I [],aQ,aQ]) hF oX O ?_;intro b3 w hb3 hF hE;refine Gb (Ha ?_);refine Ja (Ja ?_);refine Fa (Sc (Of zQ oZ O hF.F 1 O O) ?_);refine Hb hF (IT ⟨k,t,A,ks.length,c,B,xs.length,e⟩ htl _ (hG.ext hF.same)) (Ra en_74 O O) ?_;intro w hF;refine Ca (Yc O) (Gb ?_);refine Ha (Ja ?_);refine Fa (Ca (Vb O) ?_);refine Ca (KN O O) (Gb ?_);refine Ha (Rc O O (λhc0=>?_) (λhc0=>?_))
  ·
   have hc0i:=hc0;obtain⟨i0,hi0,hhx⟩:=ET hop.hol hc0;have hi0p:i0<pick.length:=by omega
   obtain⟨ad0,cq0,hAd0,hcq0,hcf0⟩:=hL.cf_elem hi0;rw[hhx];refine Ja (Xg (zs:=.of []) (bQ [0,1,2,3,4,5,6,7,8,9] (.alt 10 (bQ [11,12,13] (.act 14 (.act 15 (.free 16 .nil)))) (.act 14 (.act 10 (bQ [11,12,13] (.act 15 (.free 16 .nil))))))) hF ?_);intro w hF;refine Cb O (Bc Y3 O) (Wj O (Xf isAgg30 O C0 2 O O) ?_);refine Cb O (Vb O) (Qa O (v:=.pointer (some (ad0.add (i0*17)))) (λw hC=>Ta (i:=(i0:Int)) R2 O hAd0 O tX tX) ?_);refine Qa O (v:=.agg #[.slice cq0.A cq0.n cq0.c,J (cq0.k),.bool (cq0.x.h),J (cq0.x.v.k),I (cq0.x.v.t),.slice cq0.x.v.A cq0.x.v.n cq0.x.v.c,.slice cq0.x.v.B cq0.x.v.m cq0.x.v.e,.bool (cq0.y.h),J (cq0.y.v.k),I (cq0.y.v.t),.slice cq0.y.v.A cq0.y.v.n cq0.y.v.c,.slice cq0.y.v.B cq0.y.v.m cq0.y.v.e,.bool (cq0.z.h),J (cq0.z.v.k),I (cq0.z.v.t),.slice cq0.z.v.A cq0.z.v.n cq0.z.v.c,.slice cq0.z.v.B cq0.z.v.m cq0.z.v.e]) (λw hC=>Ya (l:=cq0.cells) isAgg41 sizeOf41 O O (hC.cells0 hcq0)) (Cb O (Bc UG O) ?_);refine Wj O (Xf dZ O C0 2 O O) (Cb O (Vb O) ?_);obtain⟨ad0,hA0,hk0,hx0⟩:=hP.int_elem (i:=i0) (hi0p);refine Qa O (v:=.pointer (some (ad0.add (i0*1)))) (λw hC=>Ta (i:=(i0:Int)) Gh O hA0 O tX tX) (Qa O (v:=J (pick[i0])) (λw hC=>Pb aZ O (hC.cell0 hk0)) ?_);refine Qf ?_ ?_
   ·
    refine Qb O (Dv L[i0] cq0 pick[i0] _ _ (hcf0.ext hF.same) (hLs _ (eQ _)).ok (hG.ext hF.same)) (Xa NT O O O) ?_;rintro _ w ⟨y,rfl,hRt,hE⟩;have hY:=RX.made (ids:=[b3,b2,b1]) hF.same.size (λx hx=>hF.lt_ids (by simpa using hx)) hRt;have hF:=hF.ext hE;clear hE hRt;refine⟨hF,?_⟩;refine Cb O (So O) (Cb O (Zz O O) ?_);refine Cb O (Tq O O) (Af O (v:=λb=>V b) (o:=.cells #[.bool false,J 0,I [],aQ,aQ] 39) hF (Xe oX) ?_);intro b4 w hb4 hF hE;have hY:=hY.alloc hE hb4;refine⟨hF.drop 1,?_⟩;refine Eu O hF qZ O O Yh ?_;intro w hF hE;have hY:=hY.store hE (by grind);refine⟨hF.drop 1,?_⟩;refine Cb O (Jc O) (Hc ?_);refine Ha (Ja ?_);refine Fa (Sc (Of bZ qZ O hF.F 0 O O) ?_);refine Pf hF qZ O O Yt ?_;intro w hF hE;have hY:=hY.store hE (by grind);refine Gb (Ha ?_);refine Ec (Dc (Ua (Ug O (l:=y.cells) O bZ qZ O (hF.cellsAll 1 O)) ?_));have e0:We L pick (.node k t ks xs)=(Ml L[i0] pick[i0]).1:=by rw[C8 (by rw[Jy];exact hc0i),Jy];show Ow L pick (Du k t)=_;rw[hhx];unfold Ow;simp[List.getD,hi0,hi0p]
    rw[e0];exact⟨y,O,hY.done,hF.same⟩
   refine Af O (v:=λb=>V b) (o:=.cells #[.bool false,J 0,I [],aQ,aQ] 39) hF (Xe oX) ?_;intro b5 w hb5 hF hE;refine⟨hF.drop 1,?_⟩;refine Qb O (Dv L[i0] cq0 pick[i0] _ _ (hcf0.ext hF.same) (hLs _ (eQ _)).ok (hG.ext hF.same)) (Xa NT O O O) ?_;rintro _ w ⟨y,rfl,hRt,hE⟩;have hY:=RX.made (ids:=[b5,b3,b2,b1]) hF.same.size (λx hx=>hF.lt_ids (by simpa using hx)) hRt;have hF:=hF.ext hE;clear hE hRt;refine⟨hF.drop 1,?_⟩;refine Cb O (So O) (Cb O (Zz O O) ?_);refine Cb O (Tq O O) (Eu O hF qZ O O Yh ?_);intro w hF hE;have hY:=hY.store hE (by grind);refine⟨hF.drop 1,?_⟩;refine Cb O (Jc O) (Hc ?_);refine Ha (Ja ?_);refine Fa (Sc (Of bZ qZ O hF.F 0 O O) ?_);refine Pf hF qZ O O Yt ?_;intro w hF hE;have hY:=hY.store hE (by grind);refine Gb (Ha ?_);refine Ec (Dc (Ua (Ug O (l:=y.cells) O bZ qZ O (hF.cellsAll 1 O)) ?_));have e0:We L pick (.node k t ks xs)=(Ml L[i0] pick[i0]).1:=by rw[C8 (by rw[Jy];exact hc0i),Jy];show Ow L pick (Du k t)=_;rw[hhx];unfold Ow;simp[List.getD,hi0,hi0p]
   rw[e0];exact⟨y,O,hY.done,hF.same⟩
  refine Va (Ha ?_);refine Ja (Fa ?_);refine Ca (Bc Wf O) (Sc (Zq aZ O hF.F 1 O O) ?_);refine Ca (Bc Fi O) (Sc (Zy fZ O hF.F 1 O O) ?_);refine Ma (w':=w) (v:=.agg #[J k,I t,aQ,aQ]) Ob (Qg hF mX oZ O ?_);intro b6 w hb6 hF hE;refine Gb (Ha ?_);refine Ja (Ja ?_);refine Fa (Ca (Bc Gc O) ?_);refine Sc (Xf xQ O hF.F 2 O O) (Ca (Tf dX O) ?_);refine Ca (Vb O) (Gb ?_);refine Ha (Za ?_);refine Fd (λμ σ w=>∃(j:Nat),∃(ac:List Str × List Tree),∃(A1:Option Addr),∃(c1:Nat),∃(sk:List (Nat × Obj)),∃(A2:Option Addr),∃(c2:Nat),∃(si:List (Nat × Obj)),∃(vals:List Value),μ=xs.length-j/\(j<=xs.length)/\(Lj L pick k ks (xs.take j)=ac)/\(SlB 9 1 A1 ac.1.length c1 (ac.1.map λs=>Value.string (bs s)) sk)/\(SlB 25 4 A2 ac.2.length c2 vals si)/\(RX w0 ([b6,b3,b2,b1]++(ids sk++ids si)) w (ac.2.map Ub) vals)/\AllEq σ [(2,V b1),(3,V b2),(4,V b3),(8,V b6),(38,.slice B xs.length e),(39,J ((xs.length:Nat))),(40,J ((j:Int)))]/\FR w0 [] ([(b6,.cells #[J k,I t,.slice A1 ac.1.length c1,.slice A2 ac.2.length c2] 25),(b3,.cells #[.bool false,J 0,I [],aQ,aQ] 39),(b2,.cells #[J k,I t,.slice A ks.length c,.slice B xs.length e] 25),(b1,.cells #[.slice LA L.length lc,.slice PA pick.length pc] 72)]++(sk++(si++[]))) w) _ ⟨0,([],[]),none,0,[],none,0,[],[],O,(Nat.zero_le _),(by simp[Lj]),(SlB.nil _ _),(SlB.nil _ _),(RX.nil),AC,hF⟩ ?_;rintro μ σ w ⟨j,ac,A1,c1,sk,A2,c2,si,vals,rfl,hj,hac,hK,hI2,hV,hs,hF⟩;refine Cg.slots hs ?_;clear hs;intro σ;have hfl:=K9 hLs pick k ks xs j hj;rw[hac]at hfl;refine Ja (Fa ?_);refine Ca (Hn O O) (Gb ?_);refine Ha (Ja ?_);refine Rc O O (λhc1=>?_) (λhc1=>?_)
  ·
   refine Va (Ha ?_);refine Ja (Mj (λσ w=>∃(ac3:List Str × List Tree),∃(A3:Option Addr),∃(c3:Nat),∃(sk3:List (Nat × Obj)),∃(A4:Option Addr),∃(c4:Nat),∃(si3:List (Nat × Obj)),∃(vals3:List Value),(Lj L pick k ks (xs.take (j+1))=ac3)/\(j<xs.length)/\(SlB 9 1 A3 ac3.1.length c3 (ac3.1.map λs=>Value.string (bs s)) sk3)/\(SlB 25 4 A4 ac3.2.length c4 vals3 si3)/\(RX w0 ([b6,b3,b2,b1]++(ids sk3++ids si3)) w (ac3.2.map Ub) vals3)/\AllEq σ [(2,V b1),(3,V b2),(4,V b3),(8,V b6),(38,.slice B xs.length e),(39,J ((xs.length:Nat))),(40,J ((j:Int)))]/\FR w0 [] ([(b6,.cells #[J k,I t,.slice A3 ac3.1.length c3,.slice A4 ac3.2.length c4] 25),(b3,.cells #[.bool false,J 0,I [],aQ,aQ] 39),(b2,.cells #[J k,I t,.slice A ks.length c,.slice B xs.length e] 25),(b1,.cells #[.slice LA L.length lc,.slice PA pick.length pc] 72)]++(sk3++(si3++[]))) w) ?_ ?_)
   ·
    refine Za (Ja ?_);have hjx:j<xs.length:=by omega
    obtain⟨adz,cz,hAz,hlz,hkz,hrz⟩:=hX.tree_elem hjx;obtain⟨z,rfl,-⟩:=Mk hrz;have hzp:=Jf hrz;have hzk:Pi xs[j]=Du z.k z.t:=by rw[Jy,hzp.1,hzp.2.1]
    have hzm:=M9 (hop.kid (List.getElem_mem (l:=xs) hjx)).mx;have hzl:z.t.length<=140737488355328:=by rw[hzp.2.1];omega
    have hkid:0<=Du z.k z.t->∃i,i<L.length/\Du z.k z.t=(i:Int):=λh=>by rw[hzp.1,hzp.2.1]at h ⊢;have h9:=(hop.kid (List.getElem_mem (l:=xs) hjx)).hol;revert h h9;generalize xs[j]=u;intro h h9;cases u;exact ET h9 h
    skip
    refine Fa (Ca (Vb O) ?_);refine Ma (v:=.pointer (some (adz.add (j*4)))) (Ta (i:=(j:Int)) Ae O hAz O tX tX) (Ma (v:=.agg (z.cells).toArray) (Ya (l:=z.cells) zQ oZ O O (hF.cells0 hkz)) ?_);refine Td (cs:=#[J 0,I [],aQ,aQ]) hF mX O ?_;intro b7 w hb7 hF hE;have hV:=hV.alloc hE hb7;refine Ca (Yc O) (Pf hF oZ O O Yh ?_);intro w hF hE;have hV:=hV.store hE Da;refine Gb (Ha ?_);refine Ja (Fa ?_);refine Sc (Of isAgg72 sizeOf72 O hF.F 4 O O) (Sc (Of zQ oZ O hF.F 0 O O) ?_);refine Db (ih _ (eQ _) LA PA lc pc _ _ _ _ z.cells (hF.rep hL) (hF.rep hP) (hF.rep hrz) (hop.kid (eQ _)) (hG.ext hF.same)) (Xa en_41 O O O) ?_;rintro _ w ⟨q,rfl,hRt,hE⟩;have hQ:=RX.made (ids:=(b7::([b6,b3,b2,b1]++(ids sk++ids si)))) hF.same.size (λx hx=>hF.lt_ids (by simp only[ids,jQ,List.map_cons,List.map_nil,qQ,mQ,oQ]at hx ⊢;grind)) hRt;have hF:=hF.ext hE;have hV:=hV.ext hE;clear hE hRt;refine Qg hF oX qZ O ?_;intro b8 w hb8 hF hE;have hV:=hV.alloc hE hb8;have hQ:=hQ.alloc hE hb8;refine Gb (Ha ?_);refine Ja (Fa ?_);refine Sc (Of zQ oZ O hF.F 1 O O) (Db (IT z hzl _ (hG.ext hF.same)) (Ra en_74 O O) ?_);rintro _ w ⟨rfl,hE⟩;have hF:=hF.ext hE;have hV:=hV.ext hE;have hQ:=hQ.ext hE;refine Ca (Yc O) (Gb ?_);refine Ha (Za ?_);refine Ja ?_;have hqs:=Me hQ.rep;refine Fa (Ca (Bc En O) ?_);refine Sc (TI cZ O hF.F 0 O O) (Ca (Fk O) ?_);refine Ca (Jc O) (Gb ?_);refine Ha (Jg O O (λhc2=>?_) (λhc2=>?_))
    ·
     have hqn:(We L pick xs[j]).has=false:=by rw[<-hqs.1];simpa using hc2
     refine Va (Fb ?_);refine Fb ?_;exact Cc ⟨(ac),(A1),(c1),(sk),(A2),(c2),(si),(vals),(by rw[Ih xs ks j hjx,hac,kidF_no hqn,qQ,qQ]),(hjx),(hK),(hI2),(hV.sub (by intro x hx;simp only[ids,jQ,List.map_cons,List.map_nil,qQ,mQ,oQ]at hx ⊢;grind)),AC,hF.drop 2⟩
    have hqh:(We L pick xs[j]).has=true:=by rw[<-hqs.1];simpa using hc2
    have hQv:=hqs.2.2.2.2;refine Ja (Fa ?_);refine Ca (Bc Wf O) (Sc (Zq aZ O hF.F 4 O O) ?_);refine Ca (Rq O O) (Ca (Jc O) ?_);refine Gb (Ha ?_);refine Rc O O (λhc3=>?_) (λhc3=>?_)
    ·
     have hjk:j<ks.length:=by have:=keys_six hop.nod hc3;omega
     refine Od ⟨[16,18],λwq=>FR w0 [] [(b8,.cells (q.cells).toArray 39),(b7,.cells (z.cells).toArray 25),(b3,.cells #[.bool false,J 0,I [],aQ,aQ] 39),(b2,.cells #[J k,I t,.slice A ks.length c,.slice B xs.length e] 25),(b1,.cells #[.slice LA L.length lc,.slice PA pick.length pc] 72)] wq,[11,12]⟩ (bQ [0,1,2,3,4,5,6,9,10,11,12] (.alt 7 (.alt 8 (.free 15 (cQ [13,14,16] (.free 17 (.act 18 .nil)))) (.act 13 (.act 8 (.free 15 (.act 14 (.act 16 (.free 17 (.act 18 .nil)))))))) (cQ [13,7,8] (.free 15 (.act 14 (.act 16 (.free 17 (.act 18 .nil)))))))) hF ?_;intro w hF hE;have hV:=hV.ext hE;have hQ:=hQ.ext hE;refine⟨λwq=>FR w0 [] [(b8,.cells (q.cells).toArray 39),(b7,.cells (z.cells).toArray 25),(b6,.cells #[J k,I t,.slice A1 ac.1.length c1,.slice A2 ac.2.length c2] 25),(b3,.cells #[.bool false,J 0,I [],aQ,aQ] 39),(b2,.cells #[J k,I t,.slice A ks.length c,.slice B xs.length e] 25),(b1,.cells #[.slice LA L.length lc,.slice PA pick.length pc] 72)] wq,hF.mid 0 6,?_⟩;refine Cb O (Bc Ff O) (Wj O (Xf wQ O C0 2 O O) ?_);refine Cb O (Bc Ff O) (Wj O (Xf wQ O C0 4 O O) ?_);refine Cb O (Vb O) ?_;obtain⟨ad1,hA1,hk1,hx1⟩:=hKs.str_elem (i:=j) (hjk);refine Qa O (v:=.pointer (some (ad1.add (j*1)))) (λw hC=>Ta (i:=(j:Int)) Zm O hA1 O tX tX) (Qa O (v:=I (ks[j])) (λw hC=>Pb fZ O (hC.cell0 hk1)) ?_);refine Cb O (Bc Gc O) (Wj O (Xf xQ O C0 2 O O) ?_);refine Cb O (Bc Ge O) (N3 O (v:=.agg (q.v.cells).toArray) (λw hC=>Ya (l:=q.v.cells) zQ oZ O O (hC.part 0 1 O O)) (λw hC=>Ya (l:=q.v.cells) zQ oZ O O (hC.part 0 1 O O)) ?_);refine Qf ?_ ?_
     ·
      refine Ie 1 O hF (Sa (cs:=#[I (ks[j])]) cX vZ rX Pa Pa Ob) ?_;intro b9 w hb9 hF hE;have hV:=hV.alloc hE hb9;have hQ:=hQ.alloc hE hb9;refine⟨hF.mid 1 6,?_⟩;refine Qf ?_ ?_
      ·
       refine Dp [_,_,_,_,_,_,_] [sk,si] 0 (news:=[I (ks[j])]) (len':=(ac.1++[ks[j]]).length) (ys:=((ac.1++[ks[j]]).map λs=>Value.string (bs s))) O Hq hF hK O O (O) (λ_=>⟨_,O,Xb (hF.cellsAll 0 O)⟩) (by simp[Value.oneCell']) (by simp only[maxLen];omega) Da Da tX ?_;intro A2 c2 k_2 w hS2_k hF hE hnew;have hsub:∀x∈(sk).map (·.1),x∈ids sk:=λ_ h=>h;have hV:=hV.grow hE hnew (λx hx=>by have:=hsub x hx;simp[this]);have hQ:=hQ.grow hE hnew (λx hx=>by have:=hsub x hx;simp[this]);clear hsub;refine⟨hF.mid 1 6,?_⟩;refine Cb O (Bc Ff O) (Ie 1 O hF (Sa (cs:=(q.v.cells).toArray) dX oZ mX Pa Pa Ob) ?_);intro b10 w hb10 hF hE;have hV:=hV.alloc hE hb10;have hQ:=hQ.alloc hE hb10;refine⟨hF.mid 2 6,?_⟩;refine Dp [_,_,_,_,_,_,_,_] [k_2,si] 1 (news:=[J (q.v.k),I (q.v.t),.slice q.v.A q.v.n q.v.c,.slice q.v.B q.v.m q.v.e]) (len':=(ac.2++[(We L pick xs[j]).val]).length) (ys:=vals++q.v.cells) O Ar hF hI2 O O (O) (λ_=>⟨_,O,Xb (hF.cellsAll 0 O)⟩) (by simp[Value.oneCell']) (by simp only[maxLen];omega) Da (O) tX ?_;intro A3 c3 i_3 w hS3_i hF hE hnew;have hsub:∀x∈(si).map (·.1),x∈ids si:=λ_ h=>h;have hV:=hV.grow hE hnew (λx hx=>by have:=hsub x hx;simp[this]);have hQ:=hQ.grow hE hnew (λx hx=>by have:=hsub x hx;simp[this]);clear hsub;refine⟨hF.mid 2 6,?_⟩;refine Z4 (.slice _ _ _) O hF lZ O O sI4 D4 ?_;intro w hF hE;have hV:=hV.store hE Da;have hQ:=hQ.store hE Da;refine⟨hF.sub (.cons _ (.cons _ (.cons_cons _ (.cons_cons _ (.cons _ (.cons_cons _ (.cons_cons _ (.cons_cons _ (List.nil_sublist _))))))))),?_⟩;refine Cb O (Bc Gc O) (Z4 (.slice _ _ _) O hF mZ O O sI4 B8 ?_);intro w hF hE;have hV:=hV.store hE Da;have hQ:=hQ.store hE Da;refine⟨hF.sub (.cons _ (.cons _ (.cons_cons _ (.cons_cons _ (.cons _ (.cons_cons _ (.cons_cons _ (.cons_cons _ (List.nil_sublist _))))))))),?_⟩
       refine Hc (Fb ?_);refine Fb ?_;exact Cc ⟨((ac.1++[ks[j]],ac.2++[(We L pick xs[j]).val])),(A2),(c2),(k_2),(A3),(c3),(i_3),(vals++q.v.cells),(by rw[Ih xs ks j hjx,hac,HB hqh (by assumption),show ks.getD j []=ks[j] by simp[List.getD,hjk]]),(hjx),(hS2_k),(hS3_i),(by rw[jQ];exact (hV.append (RX.one (Me hQ.rep).2.2.2.2)).sub (by intro x hx;simp only[ids,jQ,List.map_cons,List.map_nil,qQ,mQ,oQ]at hx ⊢;grind)),AC,hF.drop 4⟩
      refine Ie 1 O hF (Sa (cs:=(q.v.cells).toArray) dX oZ mX Pa Pa Ob) ?_;intro b11 w hb11 hF hE;have hV:=hV.alloc hE hb11;have hQ:=hQ.alloc hE hb11;refine⟨hF.mid 2 6,?_⟩;refine Dp [_,_,_,_,_,_,_,_] [sk,si] 0 (news:=[I (ks[j])]) (len':=(ac.1++[ks[j]]).length) (ys:=((ac.1++[ks[j]]).map λs=>Value.string (bs s))) O Hq hF hK O O (O) (λ_=>⟨_,O,Xb (hF.cellsAll 1 O)⟩) (by simp[Value.oneCell']) (by simp only[maxLen];omega) Da Da tX ?_;intro A4 c4 k_4 w hS4_k hF hE hnew;have hsub:∀x∈(sk).map (·.1),x∈ids sk:=λ_ h=>h;have hV:=hV.grow hE hnew (λx hx=>by have:=hsub x hx;simp[this]);have hQ:=hQ.grow hE hnew (λx hx=>by have:=hsub x hx;simp[this]);clear hsub;refine⟨hF.mid 2 6,?_⟩;refine Cb O (Bc Ff O) ?_;refine Dp [_,_,_,_,_,_,_,_] [k_4,si] 1 (news:=[J (q.v.k),I (q.v.t),.slice q.v.A q.v.n q.v.c,.slice q.v.B q.v.m q.v.e]) (len':=(ac.2++[(We L pick xs[j]).val]).length) (ys:=vals++q.v.cells) O Ar hF hI2 O O (O) (λ_=>⟨_,O,Xb (hF.cellsAll 0 O)⟩) (by simp[Value.oneCell']) (by simp only[maxLen];omega) Da (O) tX ?_;intro A5 c5 i_5 w hS5_i hF hE hnew;have hsub:∀x∈(si).map (·.1),x∈ids si:=λ_ h=>h;have hV:=hV.grow hE hnew (λx hx=>by have:=hsub x hx;simp[this]);have hQ:=hQ.grow hE hnew (λx hx=>by have:=hsub x hx;simp[this]);clear hsub;refine⟨hF.mid 2 6,?_⟩;refine Z4 (.slice _ _ _) O hF lZ O O sI4 D4 ?_;intro w hF hE;have hV:=hV.store hE Da;have hQ:=hQ.store hE Da;refine⟨hF.sub (.cons _ (.cons _ (.cons_cons _ (.cons_cons _ (.cons _ (.cons_cons _ (.cons_cons _ (.cons_cons _ (List.nil_sublist _))))))))),?_⟩;refine Cb O (Bc Gc O) (Z4 (.slice _ _ _) O hF mZ O O sI4 B8 ?_);intro w hF hE;have hV:=hV.store hE Da;have hQ:=hQ.store hE Da;refine⟨hF.sub (.cons _ (.cons _ (.cons_cons _ (.cons_cons _ (.cons _ (.cons_cons _ (.cons_cons _ (.cons_cons _ (List.nil_sublist _))))))))),?_⟩
      refine Hc (Fb ?_);refine Fb ?_;exact Cc ⟨((ac.1++[ks[j]],ac.2++[(We L pick xs[j]).val])),(A4),(c4),(k_4),(A5),(c5),(i_5),(vals++q.v.cells),(by rw[Ih xs ks j hjx,hac,HB hqh (by assumption),show ks.getD j []=ks[j] by simp[List.getD,hjk]]),(hjx),(hS4_k),(hS5_i),(by rw[jQ];exact (hV.append (RX.one (Me hQ.rep).2.2.2.2)).sub (by intro x hx;simp only[ids,jQ,List.map_cons,List.map_nil,qQ,mQ,oQ]at hx ⊢;grind)),AC,hF.drop 4⟩
     refine Ie 1 O hF (Sa (cs:=(q.v.cells).toArray) dX oZ mX Pa Pa Ob) ?_;intro b12 w hb12 hF hE;have hV:=hV.alloc hE hb12;have hQ:=hQ.alloc hE hb12;refine⟨hF.mid 1 6,?_⟩;refine Ie 1 O hF (Sa (cs:=#[I (ks[j])]) cX vZ rX Pa Pa Ob) ?_;intro b13 w hb13 hF hE;have hV:=hV.alloc hE hb13;have hQ:=hQ.alloc hE hb13;refine⟨hF.mid 2 6,?_⟩;refine Dp [_,_,_,_,_,_,_,_] [sk,si] 0 (news:=[I (ks[j])]) (len':=(ac.1++[ks[j]]).length) (ys:=((ac.1++[ks[j]]).map λs=>Value.string (bs s))) O Hq hF hK O O (O) (λ_=>⟨_,O,Xb (hF.cellsAll 0 O)⟩) (by simp[Value.oneCell']) (by simp only[maxLen];omega) Da Da tX ?_;intro A6 c6 k_6 w hS6_k hF hE hnew;have hsub:∀x∈(sk).map (·.1),x∈ids sk:=λ_ h=>h;have hV:=hV.grow hE hnew (λx hx=>by have:=hsub x hx;simp[this]);have hQ:=hQ.grow hE hnew (λx hx=>by have:=hsub x hx;simp[this]);clear hsub;refine⟨hF.mid 2 6,?_⟩;refine Cb O (Bc Ff O) ?_;refine Dp [_,_,_,_,_,_,_,_] [k_6,si] 1 (news:=[J (q.v.k),I (q.v.t),.slice q.v.A q.v.n q.v.c,.slice q.v.B q.v.m q.v.e]) (len':=(ac.2++[(We L pick xs[j]).val]).length) (ys:=vals++q.v.cells) O Ar hF hI2 O O (O) (λ_=>⟨_,O,Xb (hF.cellsAll 1 O)⟩) (by simp[Value.oneCell']) (by simp only[maxLen];omega) Da (O) tX ?_;intro A7 c7 i_7 w hS7_i hF hE hnew;have hsub:∀x∈(si).map (·.1),x∈ids si:=λ_ h=>h;have hV:=hV.grow hE hnew (λx hx=>by have:=hsub x hx;simp[this]);have hQ:=hQ.grow hE hnew (λx hx=>by have:=hsub x hx;simp[this]);clear hsub;refine⟨hF.mid 2 6,?_⟩;refine Z4 (.slice _ _ _) O hF lZ O O sI4 D4 ?_;intro w hF hE;have hV:=hV.store hE Da;have hQ:=hQ.store hE Da;refine⟨hF.sub (.cons _ (.cons _ (.cons_cons _ (.cons_cons _ (.cons _ (.cons_cons _ (.cons_cons _ (.cons_cons _ (List.nil_sublist _))))))))),?_⟩;refine Cb O (Bc Gc O) (Z4 (.slice _ _ _) O hF mZ O O sI4 B8 ?_)
     intro w hF hE;have hV:=hV.store hE Da;have hQ:=hQ.store hE Da;refine⟨hF.sub (.cons _ (.cons _ (.cons_cons _ (.cons_cons _ (.cons _ (.cons_cons _ (.cons_cons _ (.cons_cons _ (List.nil_sublist _))))))))),?_⟩;refine Hc (Fb ?_);refine Fb ?_;exact Cc ⟨((ac.1++[ks[j]],ac.2++[(We L pick xs[j]).val])),(A6),(c6),(k_6),(A7),(c7),(i_7),(vals++q.v.cells),(by rw[Ih xs ks j hjx,hac,HB hqh (by assumption),show ks.getD j []=ks[j] by simp[List.getD,hjk]]),(hjx),(hS6_k),(hS7_i),(by rw[jQ];exact (hV.append (RX.one (Me hQ.rep).2.2.2.2)).sub (by intro x hx;simp only[ids,jQ,List.map_cons,List.map_nil,qQ,mQ,oQ]at hx ⊢;grind)),AC,hF.drop 4⟩
    refine Ja (Fa ?_);refine Ca (Vb O) (Ca (KN O O) ?_);refine Ca (Hd O) (Tc (d:=85) O (λhg8=>?_) (λhg8=>?_))
    ·
     obtain⟨i1,hi1,hh1⟩:=hkid tX;obtain⟨ad1,cq1,hAd1,hcq1,hcf1⟩:=hL.cf_elem hi1;have hcl1:=hcf1.k;rw[hh1];refine Ca (Bc Y3 O) (Sc (Xf isAgg30 O hF.F 5 O O) ?_);refine Ca (Vb O) (Ma (v:=.pointer (some (ad1.add (i1*17)))) (Ta (i:=(i1:Int)) R2 O hAd1 O tX tX) ?_);refine Ma (v:=.pointer (some ((ad1.add (i1*17)).add 1))) (Vg (a:=ad1.add (i1*17)) L8 O) (Ma (v:=J (cq1.k)) (Pb aZ O (hF.cell0 (hcq1 1 Ib))) ?_);refine Ca (Rq O O) (Ca (Kc O O) ?_);refine Ca (Jc O) (Gb ?_);refine Ha (Rc O O (λhc4=>?_) (λhc4=>?_))
     ·
      have hqm:=(Jf hQv).2.2.2.1;obtain⟨eG,hrG,hGl_,hGc⟩:=((Jf hQv).2.2.2.2.2).slice_open (λd hd=>by rw[Yd]at hd;obtain⟨u,_,rfl⟩:=nQ.1 hd;exact Xc u);have hRG:RX w0 _ _ _ _:=hrG;have h5:0<=Pi xs[j]/\(L.getD (Pi xs[j]).toNat noC).cls=5:=by rw[hzk,hh1];exact⟨by omega,by rw[HH hi1];omega⟩
      have hil:=(MK hLs pick k [] xs[j]).1;rw[SM hqh (by assumption) h5]at hil;simp only at hil;refine Fa (Ca (Bc Gc O) ?_);refine Sc (Xf xQ O hF.F 2 O O) (Ca (Bc Ge O) ?_);refine Ca (Bc Gc O) (Sc (Xf xQ O hF.F 0 O O) ?_);refine XF [_,_,_,_,_,_] [sk,si] 1 (news:=eG) (len':=(ac.2++(We L pick xs[j]).val.items).length) (ys:=vals++eG) Ar hF hI2 rfl rfl (hGl_) (λhk=>by obtain⟨ad,hA,hc⟩:=hGc hk;exact⟨ad,hA,Xb hc⟩) (Qy hrG.one_) (by simp only[maxLen];omega) (by rw[dQ,<-hqm]) (rfl) tX ?_;intro A9 c9 i_9 w hS9_i hF hE hnew;have hsub:∀x∈(si).map (·.1),x∈ids si:=λ_ h=>h;have hV:=hV.grow hE hnew (λx hx=>by have:=hsub x hx;simp[this]);have hQ:=hQ.grow hE hnew (λx hx=>by have:=hsub x hx;simp[this]);have hRG:=hRG.grow hE hnew (λx hx=>by have:=hsub x hx;simp[this]);clear hsub;refine Ca (Bc Gc O) (Xo (.slice _ _ _) hF mZ O O D4 B8 ?_);intro w hF hE;have hV:=hV.store hE Da;have hQ:=hQ.store hE Da;have hRG:=hRG.store hE Da;refine Gb (Fb ?_);refine Fb ?_;exact Cc ⟨((ac.1,ac.2++(We L pick xs[j]).val.items)),(A1),(c1),(sk),(A9),(c9),(i_9),(vals++eG),(by rw[Ih xs ks j hjx,hac,SM hqh (by assumption) h5,qQ]),(hjx),(hK),(hS9_i),(by rw[jQ,<-Yd (We L pick xs[j]).val.items];exact (hV.append hRG).sub (by intro x hx;simp only[ids,jQ,List.map_cons,List.map_nil,qQ,mQ,oQ]at hx ⊢;grind)),AC,hF.drop 2⟩
     have h5n:¬(0<=Pi xs[j]/\(L.getD (Pi xs[j]).toNat noC).cls=5):=by
       rintro⟨ha,hb⟩
       first
       | (rw[hzk]at ha;omega)
       | (rw[hzk,hh1,HH hi1]at hb;omega)
     refine Fa (Ca (Bc Gc O) ?_);refine Sc (Xf xQ O hF.F 2 O O) (Ca (Bc Ge O) ?_);refine Ma (v:=.agg (q.v.cells).toArray) (Ya (l:=q.v.cells) zQ oZ O O (hF.part 0 1 O O)) (Bi 1 hF (Sa (cs:=(q.v.cells).toArray) dX oZ mX Pa Pa Ob) ?_);intro b14 w hb14 hF hE;have hV:=hV.alloc hE hb14;have hQ:=hQ.alloc hE hb14;refine XF [_,_,_,_,_,_,_] [sk,si] 1 (news:=[J (q.v.k),I (q.v.t),.slice q.v.A q.v.n q.v.c,.slice q.v.B q.v.m q.v.e]) (len':=(ac.2++[(We L pick xs[j]).val]).length) (ys:=vals++q.v.cells) Ar hF hI2 O O (O) (λ_=>⟨_,O,Xb (hF.cellsAll 0 O)⟩) (by simp[Value.oneCell']) (by simp only[maxLen];omega) Da (O) tX ?_;intro A10 c10 i_10 w hS10_i hF hE hnew;have hsub:∀x∈(si).map (·.1),x∈ids si:=λ_ h=>h;have hV:=hV.grow hE hnew (λx hx=>by have:=hsub x hx;simp[this]);have hQ:=hQ.grow hE hnew (λx hx=>by have:=hsub x hx;simp[this]);clear hsub;refine Ca (Bc Gc O) (Xo (.slice _ _ _) hF mZ O O B8 B8 ?_);intro w hF hE;have hV:=hV.store hE Da;have hQ:=hQ.store hE Da;refine Gb (Fb ?_);refine Fb ?_;exact Cc ⟨((ac.1,ac.2++[(We L pick xs[j]).val])),(A1),(c1),(sk),(A10),(c10),(i_10),(vals++q.v.cells),(by rw[Ih xs ks j hjx,hac,OJ hqh (by assumption) h5n,qQ]),(hjx),(hK),(hS10_i),(by rw[jQ];exact (hV.append (RX.one (Me hQ.rep).2.2.2.2)).sub (by intro x hx;simp only[ids,jQ,List.map_cons,List.map_nil,qQ,mQ,oQ]at hx ⊢;grind)),AC,hF.drop 3⟩
    refine Ka (Ka ?_);refine Ka (Ka ?_);refine Ka (Ka ?_);refine Ka (Ca (Ld O O) ?_);refine Ca (Jc O) (Gb ?_);refine Ha (Bg O ?_);have h5n:¬(0<=Pi xs[j]/\(L.getD (Pi xs[j]).toNat noC).cls=5):=by
      rintro⟨ha,hb⟩
      first
      | (rw[hzk]at ha;omega)
      | (rw[hzk,hh1,HH hi1]at hb;omega)
    refine Fa (Ca (Bc Gc O) ?_);refine Sc (Xf xQ O hF.F 2 O O) (Ca (Bc Ge O) ?_);refine Ma (v:=.agg (q.v.cells).toArray) (Ya (l:=q.v.cells) zQ oZ O O (hF.part 0 1 O O)) (Bi 1 hF (Sa (cs:=(q.v.cells).toArray) dX oZ mX Pa Pa Ob) ?_);intro b15 w hb15 hF hE;have hV:=hV.alloc hE hb15;have hQ:=hQ.alloc hE hb15;refine XF [_,_,_,_,_,_,_] [sk,si] 1 (news:=[J (q.v.k),I (q.v.t),.slice q.v.A q.v.n q.v.c,.slice q.v.B q.v.m q.v.e]) (len':=(ac.2++[(We L pick xs[j]).val]).length) (ys:=vals++q.v.cells) Ar hF hI2 O O (O) (λ_=>⟨_,O,Xb (hF.cellsAll 0 O)⟩) (by simp[Value.oneCell']) (by simp only[maxLen];omega) Da (O) tX ?_;intro A11 c11 i_11 w hS11_i hF hE hnew;have hsub:∀x∈(si).map (·.1),x∈ids si:=λ_ h=>h;have hV:=hV.grow hE hnew (λx hx=>by have:=hsub x hx;simp[this]);have hQ:=hQ.grow hE hnew (λx hx=>by have:=hsub x hx;simp[this]);clear hsub;refine Ca (Bc Gc O) (Xo (.slice _ _ _) hF mZ O O B8 B8 ?_);intro w hF hE;have hV:=hV.store hE Da;have hQ:=hQ.store hE Da;refine Gb (Fb ?_);refine Fb ?_;exact Cc ⟨((ac.1,ac.2++[(We L pick xs[j]).val])),(A1),(c1),(sk),(A11),(c11),(i_11),(vals++q.v.cells),(by rw[Ih xs ks j hjx,hac,OJ hqh (by assumption) h5n,qQ]),(hjx),(hK),(hS11_i),(by rw[jQ];exact (hV.append (RX.one (Me hQ.rep).2.2.2.2)).sub (by intro x hx;simp only[ids,jQ,List.map_cons,List.map_nil,qQ,mQ,oQ]at hx ⊢;grind)),AC,hF.drop 3⟩
   rintro σ w ⟨ac3,A3,c3,sk3,A4,c4,si3,vals3,hac3,hjx,hK3,hI3,hV3,hs,hF⟩;refine Eg.slots hs ?_;clear hs;intro σ;refine Ha (Fa ?_);refine Ca (Sl (((j+1:Nat):Int)) O O) (Ca (Vb O) ?_);refine Gb (Cc ⟨_,?_,j+1,ac3,A3,c3,sk3,A4,c4,si3,vals3,O,tX,(hac3),(hK3),(hI3),(hV3),AC,hF⟩);omega
  refine Wc (Vc O ?_);refine Ha (Ja ?_);refine Fa (Sc (Of zQ oZ O hF.F 0 O O) ?_);refine Db (Jh ⟨k,t,A1,ac.1.length,c1,A2,ac.2.length,c2⟩ _) (Ra Lh O O) ?_;rintro _ w ⟨rfl,hE⟩;have hF:=hF.ext hE;have hV:=hV.ext hE;refine Pf hF qZ O O Yt ?_;intro w hF hE;have hV:=hV.store hE Da;refine Gb (Ha ?_);refine Ec (Dc (Ua (Ug O (l:=[.bool true,J k,I t,.slice A1 ac.1.length c1,.slice A2 ac.2.length c2]) O bZ qZ O (hF.cellsAll 1 O)) ?_));obtain rfl:j=xs.length:=by omega
  have e0:We L pick (.node k t ks xs)=⟨true,.node k t ac.1 ac.2⟩:=by rw[We,if_neg (by rw[Jy];exact hc0),<-hac,List.take_length]
  rw[e0];have hkl:∀s∈ac.1,s.length<=9223372036854775807:=λs hs=>by rw[<-hac]at hs;rcases Yw _ (gQ _) s hs with h|h;(have:=hkm s h;omega);(rw[h];simp)
  refine⟨⟨true,k,t,A1,ac.1.length,c1,A2,ac.2.length,c2⟩,O,Ye (s:=⟨true,.node k t ac.1 ac.2⟩) (x:=⟨k,t,A1,ac.1.length,c1,A2,ac.2.length,c2⟩) (Rep.tree_mk ⟨by omega,by omega⟩ tX ?_ ?_),hF.same⟩
  ·exact hK.rep (pre:=[_,_,_,_]) hF (RX.strs (ids:=([b6,b3,b2,b1]++(ids sk++ids si))) hkl) Da
  rw[Yd];exact hI2.rep (pre:=[_,_,_,_]++sk) (post:=[]) (by simpa using hF) hV Da
theorem WX(L:List Cf)(pick:List Int)(hlp:L.length=pick.length)(hLs:∀c∈L,CfS c)(x:Tree):FillC L pick x:=Tree.ind (MV L pick hlp hLs) x
theorem kid_size{L:List Cf}(hL:∀c∈L,CfS c)(pick:List Int)(k:Int)(key:Str)(x:Tree):Kb (Xt L k key (Pi x) (We L pick x)).2<=Mb (We L pick x).val:=by
  unfold Xt;split
  ·split
   ·simp[Kb]
   split
   ·have:=Nn (We L pick x).val;show Kb (We L pick x).val.items<=_;omega
   simp[Kb]
  simp[Kb]
theorem kid_max{L:List Cf}(pick:List Int)(k:Int)(key:Str)(x:Tree){M:Nat}(h:Qd (We L pick x).val<=M):∀y∈(Xt L k key (Pi x) (We L pick x)).2,Qd y<=M:=by
  unfold Xt;split
  ·split
   ·intro y hy;rw[pQ.1 hy];exact h
   split
   ·exact Ki h
   intro y hy;rw[pQ.1 hy];exact h
  intro y hy;cases hy
theorem fill_big{L:List Cf}(hL:∀c∈L,CfS c)(pick:List Int)(x:Tree):Qd x<=16777216->Mb (We L pick x).val<=257*Mb x/\Qd (We L pick x).val<=16777216 :=
  Tree.ind (Q:=λx=>Qd x<=16777216->Mb (We L pick x).val<=257*Mb x/\Qd (We L pick x).val<=16777216) (λk t ks xs ih hm=>by
    by_cases h0:0<=Pi (.node k t ks xs)
    ·rw[C8 h0]
     have:=K_ hL pick (Pi (.node k t ks xs));have:=Rr (.node k t ks xs);exact⟨by omega,by omega⟩
    rw[We, if_neg h0];have key:∀j,j<=xs.length->Kb (Lj L pick k ks (xs.take j)).2<=257*Kb (xs.take j)/\∀y∈(Lj L pick k ks (xs.take j)).2,Qd y<=16777216:=by
      intro j
      induction j with
      | zero=>intro _;simp[Lj,Kb]
      | succ j ihj =>
        intro hj;obtain⟨h1,h2⟩:=ihj tX;have hx:xs[j]'by_Om∈xs:=eQ _;obtain⟨h3,h4⟩:=ih _ hx (Ki (x:=.node k t ks xs) hm _ hx);rw[Ih xs ks j tX];have h5:=kid_size hL pick k (ks.getD j []) (xs[j]'by_Om);have h6:Kb (xs.take (j+1))=Kb (xs.take j)+Mb (xs[j]'by_Om):=by rw[iQ tX,Ee];simp[Kb]
        refine⟨by rw[Ee,h6];omega,λy hy=>?_⟩;rcases mQ.1 hy with hy|hy
        ·exact h2 y hy
        exact kid_max pick k _ _ h4 y hy
    obtain⟨h1,h2⟩:=key xs.length (gQ _);rw[List.take_length]at h1 h2;refine⟨by rw[Mb,Mb];omega,?_⟩;have h7:=Bu h2;have h8:Dm (Lj L pick k ks xs).1<=16777216:=Gy λs hs=>by
      have hs':=hs;rw[<-List.take_length (l:=xs)]at hs';rcases Yw xs.length (gQ _) s hs' with h|h
      ·exact O2 (x:=.node k t ks xs) hm s h
      rw[h];simp
    have h9:=M9 (x:=.node k t ks xs) hm;simp only[Tree.text]at h9;rw[Qd];omega) x
theorem L_{v:Tree}{L:List Cf}{pick:List Int}(h:¬(Mf v=true/\Iu v L pick=true)):Jt v L pick=(zeroT,1):=if_neg h
theorem Tw{v:Tree}{L:List Cf}{pick:List Int}(h:Mf v=true/\Iu v L pick=true):Jt v L pick=if (We L pick v).has=true then (if Nc (We L pick v).val=true then ((We L pick v).val,0) else (zeroT,1)) else (zeroT,8):=if_pos h
theorem SW{v:Tree}(h:Mf v=true):Pd nodeB v=true:=(Bool.and_eq_true_iff.1 h).2
theorem good_len{v:Tree}{L:List Cf}{pick:List Int}(h:Iu v L pick=true):L.length=pick.length:=by
  unfold Iu at h;rw[Bool.and_eq_true,decide_eq_true_eq]at h;exact h.1
theorem QX(L:List Cf)(pick:List Int)(LA PA:Option Addr)(lc pc:Nat)(SL SP:Nat->Prop)(t:Tree)(x:Tv)(SX:Nat->Prop)(w0:World)(hL:Rep SL w0 (.slice (L.map RC)) [.slice LA L.length lc])(hP:Rep SP w0 (.slice (pick.map Kh)) [.slice PA pick.length pc])(hLs:∀c∈L,CfS c)(hX:Rep SX w0 (Ub t) x.cells)(hol:HolIn L.length t)(hsz:Mb t<=512)(hmx:Qd t<=16777216)(hG:Gl w0):Calls prog 18 #[.agg (x.cells).toArray,.slice LA L.length lc,.slice PA pick.length pc] w0 (Be λv w'=>∃q:Tv,v=.tuple #[.agg q.cells.toArray,J (Jt t L pick).2]/\Rep (Btw w0 w') w' (Ub (Jt t L pick).1) q.cells/\Same [] w0 w'):=by
 refine Ga func18 O ntmps18 Ib (Qm _ _ _) ?_;have hF:=FR.start w0 [];refine Ia (Bf hF O ?_);rintro b1 w hb1 hF -;refine Td (cs:=#[J 0,I [],aQ,aQ]) hF mX O ?_;rintro b2 w hb2 hF -;refine Ca (Yc O) (Lc (Ca (Je O) (Ca (Je O) ?_)));refine Ma (w':=w) (v:=.agg #[.slice LA L.length lc,.slice PA pick.length pc]) Ob (Qg hF zeroValue72 sizeOf72 O ?_);rintro b3 w hb3 hF -;refine Ea (Ja (Ia (Sc (Of zQ oZ O hF.F 2 O O) ?_)));refine Hb hF (Uz t tX _ _ x.cells (hF.rep hX) (Re _ tX) (hG.ext hF.same)) (Ra NA O O) ?_;intro w hF;refine Ca (Fk O) (Ca (Hd O) ?_);refine Zd (d:=16) O (λhg0=>?_) (λhg0=>?_)
 ·
  refine Ka (Ka (Ka (Ka (Ca (Kc O O) (Ea (Se O (Ia ?_)))))));refine Ma (w':=w) (v:=.agg #[J 0,I [],aQ,aQ]) Ob (Pf hF oZ O O Yt ?_);rintro w hF -;refine Ca (Yc O) (Ea ?_);refine Ec (Dc (Ua (He O (l:=[J 0,I [],aQ,aQ]) O zQ oZ O (hF.cellsAll 1 O) (v:=J 1) O) ?_));rw[L_ (by simp_all)];exact⟨HY,O,Qk _ _,hF.same⟩
 refine Sc (Of isAgg72 sizeOf72 O hF.F 0 O O) (Sc (Of zQ oZ O hF.F 2 O O) ?_);refine Hb hF (goodC_c L pick LA PA lc pc _ _ t x _ _ (hF.rep hL) (hF.rep hP) (λc hc=>(hLs c hc).ok) (hF.rep hX) tX (hG.ext hF.same)) (Xa en_40 O O O) ?_;intro w hF;refine Ca (Fk O) (Ca (Ld O O) (Ea ?_));refine Jg O O (λhc0=>?_) (λhc0=>?_)
 ·
  refine Ia (Ma (w':=w) (v:=.agg #[J 0,I [],aQ,aQ]) Ob ?_);refine Pf hF oZ O O Yt ?_;rintro w hF -;refine Ca (Yc O) (Ea ?_);refine Ec (Dc (Ua (He O (l:=[J 0,I [],aQ,aQ]) O zQ oZ O (hF.cellsAll 1 O) (v:=J 1) O) ?_));rw[L_ (by simp_all)];exact⟨HY,O,Qk _ _,hF.same⟩
 refine Va (Ha (Ia (Sc (Of isAgg72 sizeOf72 O hF.F 0 O O) (Sc (Of zQ oZ O hF.F 2 O O) ?_))));have hgo:Mf t=true/\Iu t L pick=true:=by simp_all
 refine Db (WX L pick (good_len hgo.2) hLs t LA PA lc pc _ _ _ _ x.cells (hF.rep hL) (hF.rep hP) (hF.rep hX) ⟨hol,SW hgo.1,hsz,hmx⟩ (hG.ext hF.same)) (Xa en_41 O O O) ?_;rintro _ w ⟨y,rfl,hRt,hE⟩;have hY:=RX.made (ids:=[b3,b2,b1]) hF.same.size (λx hx=>hF.lt_ids (by simpa using hx)) hRt;have hyp:=Me hRt;have hF:=hF.ext hE;clear hE hRt;have hfb:=fill_big hLs pick t hmx;refine Qg hF oX qZ O ?_;intro b4 w hb4 hF hE;have hY:=hY.alloc hE hb4;refine Ea (Ja (Za (Ia (Ca (Bc En O) (Sc (TI cZ O hF.F 0 O O) (Ca (Fk O) (Ca (Jc O) (Ea ?_))))))));refine Jg O O (λhc1=>?_) (λhc1=>?_)
 ·
  refine Ia (Ma (w':=w) (v:=.agg #[J 0,I [],aQ,aQ]) Ob ?_);refine Pf hF oZ O O D4 ?_;intro w hF hE;have hY:=hY.store hE (by grind);refine Ca (Yc O) (Ea ?_);refine Ec (Dc (Ua (He O (l:=[J 0,I [],aQ,aQ]) O zQ oZ O (hF.cellsAll 2 O) (v:=J 8) O) ?_));rw[show Jt t L pick=(zeroT,8) by rw[Tw hgo,if_neg (by rw[<-hyp.1];simp_all)]];exact⟨HY,O,Qk _ _,hF.same⟩
 refine Ia (Ca (Bc Ge O) (Ma (v:=.agg (y.v.cells).toArray) (Ya (l:=y.v.cells) zQ oZ O O (hF.part 0 1 O O)) ?_));refine Db (Aq (We L pick t).val tX _ _ y.v.cells (Me hY.rep).2.2.2.2 (Re _ tX) (hG.ext hF.same)) (Ra Mz O O) ?_;rintro _ w ⟨rfl,hE⟩;have hF:=hF.ext hE;have hY:=hY.ext hE;refine Ca (Fk O) (Ca (Jc O) (Ea ?_));refine Jg O O (λhc2=>?_) (λhc2=>?_)
 ·
  refine Ia (Ma (w':=w) (v:=.agg #[J 0,I [],aQ,aQ]) Ob ?_);refine Pf hF oZ O O D4 ?_;intro w hF hE;have hY:=hY.store hE (by grind);refine Ca (Yc O) (Ea ?_);refine Ec (Dc (Ua (He O (l:=[J 0,I [],aQ,aQ]) O zQ oZ O (hF.cellsAll 2 O) (v:=J 1) O) ?_));rw[show Jt t L pick=(zeroT,1) by rw[Tw hgo,if_pos (by rw[<-hyp.1];simp_all),if_neg (by simp_all)]];exact⟨HY,O,Qk _ _,hF.same⟩
 refine Va (Fb (Ha (Ia (Ca (Bc Ge O) (Ma (v:=.agg (y.v.cells).toArray) (Ya (l:=y.v.cells) zQ oZ O O (hF.part 0 1 O O)) ?_)))));refine Pf hF oZ O O D4 ?_;intro w hF hE;have hY:=hY.store hE (by grind);refine Ca (Yc O) (Ea ?_);refine Ec (Dc (Ua (He O (l:=y.v.cells) O zQ oZ O (hF.cellsAll 2 O) (v:=J 0) O) ?_));rw[show Jt t L pick=((We L pick t).val,0) by rw[Tw hgo,if_pos (by rw[<-hyp.1];simp_all),if_pos (by simp_all)]];have hYd:=hY.done;exact⟨y.v,O,(Me hYd).2.2.2.2,hF.same⟩
end Go.Scarf
