/- A part of the proof. -/
import Derived.Test.YtgkmigdopohcnaaGreatDoorM13
set_option linter.all false
set_option maxHeartbeats 8000000
set_option maxRecDepth 10000
namespace Go.Scarf
open Go.RowKit Go.Proofs Go.Proofs.Tryz
theorem Qf{L:List Cf}{pick:List Int}{k:Int}:∀(xs:List Tree)(ks:List Str)(j:Nat)(hj:j<xs.length),
    Hh L pick k ks (xs.take (j+1))=((Hh L pick k ks (xs.take j)).1++(Sq L k (ks.getD j []) (Zh xs[j]) (Me L pick xs[j])).1,(Hh L pick k ks (xs.take j)).2++(Sq L k (ks.getD j []) (Zh xs[j]) (Me L pick xs[j])).2)
  | [],_,_,hj=>absurd hj La
  | x :: xs, ks, 0, _ => by
    simp only[List.take_succ_cons,List.take_zero,Hh,List.nil_append,qQ,List.getElem_cons_zero];cases ks <;> rfl
  | x :: xs, ks, j + 1, hj => by
    have ih:=Qf (L:=L) (pick:=pick) (k:=k) xs ks.tail j (by simpa using hj);rw[List.take_succ_cons,Hh,ih,List.take_succ_cons,Hh];have e:ks.tail.getD j []=ks.getD (j+1) []:=by cases ks <;> simp
    simp only[e,List.getElem_cons_succ,sQ]
structure CfS (c:Cf):Prop where
  rig:CfR c
  b:Mb c.b.val<=256/\Id c.b.val<=16777216
  l:Mb c.l.val<=256/\Id c.l.val<=16777216
  r:Mb c.r.val<=256/\Id c.r.val<=16777216
theorem CfS.ok{c:Cf}(h:CfS c):CfOk c:=⟨⟨by have:=h.b;omega,Al _ (by have:=h.b;omega)⟩,⟨by have:=h.l;omega,Al _ (by have:=h.l;omega)⟩,⟨by have:=h.r;omega,Al _ (by have:=h.r;omega)⟩⟩
theorem Q3{s:Sd}(h:SdR s):Th s=s:=by
  rcases h with rfl|⟨h1,h2⟩
  ·rfl
  unfold Th;rw[if_pos h1,PG h2,<-h1]
theorem RF{c:Cf}(h:CfS c)(pk:Int):Mb (Pi c pk).1.val<=256/\Id (Pi c pk).1.val<=16777216:=by
  obtain⟨r1,r2,r3,-⟩:=h.rig;unfold Pi;split
  ·rw[Q3 r1];exact h.b
  split
  ·rw[Q3 r2];exact h.l
  split
  ·rw[Q3 r3];exact h.r
  simp[noS,zeroT,Mb,Vb,Id,Uj,Qj]
theorem G3{L:List Cf}(h:∀c∈L,CfS c)(pick:List Int)(i:Int):Mb (Zq L pick i).val<=256/\Id (Zq L pick i).val<=16777216:=by
  unfold Zq;by_cases hi:i.toNat<L.length
  ·have e : L.getD i.toNat noC = L[i.toNat] := by simp[List.getD, hi]
   rw[e];exact RF (h _ (eQ _)) _
  have e : L.getD i.toNat noC = noC := by simp[List.getD, Nat.not_lt.1 hi]
  rw[e];unfold Pi;have z:Th noC.b=noS/\Th noC.l=noS/\Th noC.r=noS:=⟨rfl,rfl,rfl⟩;rw[z.1,z.2.1,z.2.2];split <;> (try split) <;> (try split) <;> simp[noS,zeroT,Mb,Vb,Id,Uj,Qj]
theorem Sz{L:List Cf}{pick:List Int}{x:Tree}(h:0<=Zh x):Me L pick x=Zq L pick (Zh x):=by cases x;rw[Me,if_pos h]
theorem LE{L:List Cf}(hL:∀c∈L,CfS c)(pick:List Int)(k:Int)(key:Str)(x:Tree):(Sq L k key (Zh x) (Me L pick x)).2.length<=256/\(Sq L k key (Zh x) (Me L pick x)).1.length<=1:=by
  unfold Sq;split
  ·split
   ·simp
   split
   ·rename_i h5
    rw[Sz h5.1];have h1:=(G3 hL pick (Zh x)).1;have h2:=Ju (Zq L pick (Zh x)).val;have h3:=Ll (Zq L pick (Zh x)).val.items;refine⟨?_,by simp⟩;show (Zq L pick (Zh x)).val.items.length<=256;omega
   simp
  simp
theorem N3{L:List Cf}(hL:∀c∈L,CfS c)(pick:List Int)(k:Int)(ks:List Str)(xs:List Tree):∀j,j<=xs.length->(Hh L pick k ks (xs.take j)).2.length<=256*j/\(Hh L pick k ks (xs.take j)).1.length<=j
  | 0,_=>by simp[Hh]
  | j + 1, hj => by
    have ih:=N3 hL pick k ks xs j Ba;have h1:=LE hL pick k (ks.getD j []) (xs[j]' Ba);rw[Qf xs ks j Ba];simp only[dQ];omega
theorem Cs{L:List Cf}{pick:List Int}{k:Int}{ks:List Str}{xs:List Tree}:∀j,j<=xs.length->∀s∈(Hh L pick k ks (xs.take j)).1,s∈ks\/s=[]
  | 0,_=>λs hs=>by simp[Hh]at hs
  | j + 1, hj => λs hs => by
    rw[Qf xs ks j Ba]at hs;rcases mQ.1 hs with hs|hs
    ·exact Cs j Ba s hs
    have:s=ks.getD j []:=by
      unfold Sq at hs;split at hs
      ·split at hs
       ·simpa using hs
       split at hs <;> simp at hs
      simp at hs
    rw[this];by_cases hjk:j<ks.length
    ·left;simp[List.getD,hjk]
    right;simp[List.getD,Nat.not_lt.1 hjk]
def HolIn(n:Nat)(x:Tree):Prop:=∀t∈Pf x,∃i,i<n/\i<1000/\t=En i
theorem MK{n:Nat}{k:Int}{t:Str}{ks:List Str}{xs:List Tree}(h:HolIn n (.node k t ks xs))(h0:0<=Sp k t):∃i,i<n/\Sp k t=(i:Int):=by
  by_cases hk:k=7
  ·obtain⟨i, hi, hi2, e⟩ := h t (by rw[Pf, if_pos hk];simp)
   refine⟨i,hi,?_⟩;have:=GF hi2;rw[e,hk];exact this
  have : Sp k t = -1 := if_pos hk;omega
theorem HolIn.kid{n:Nat}{k:Int}{t:Str}{ks:List Str}{xs:List Tree}(h:HolIn n (.node k t ks xs)){x:Tree}(hx:x∈xs):HolIn n x:=λs hs=>h s (by
  rw[Pf,Jm];exact List.mem_append_right _ (List.mem_flatMap.2 ⟨x,hx,hs⟩))
structure OpT (n:Nat) (x:Tree):Prop where
  hol:HolIn n x
  nod:Td nodeB x=true
  sz:Mb x<=512
  mx:Id x<=16777216
theorem OpT.kid{n:Nat}{k:Int}{t:Str}{ks:List Str}{xs:List Tree}(h:OpT n (.node k t ks xs)){x:Tree}(hx:x∈xs):OpT n x :=
  ⟨h.hol.kid hx,(Tf h.nod).2 x hx,by have:=h.sz;have:=Pl hx;rw[Mb]at *;omega,by have:=h.mx;have:=Mk hx;rw[Id]at *;omega⟩
theorem C8{L:List Cf}{i:Nat}(h:i<L.length):L.getD ((i:Nat):Int).toNat noC=L[i]:=by simp[List.getD,h]
theorem KY{L:List Cf}{k:Int}{key:Str}{h:Int}{s:Sd}(hs:s.has=false):Sq L k key h s=([],[]):=by unfold Sq;rw[if_neg (by rw[hs];decide)]
theorem F2{L:List Cf}{k:Int}{key:Str}{h:Int}{s:Sd}(hs:s.has=true)(hk:k=6):Sq L k key h s=([key],[s.val]):=by unfold Sq;rw[if_pos hs,if_pos hk]
theorem RE{L:List Cf}{k:Int}{key:Str}{h:Int}{s:Sd}(hs:s.has=true)(hk:¬k=6)(h5:0<=h/\(L.getD h.toNat noC).cls=5):Sq L k key h s=([],s.val.items):=by unfold Sq;rw[if_pos hs,if_neg hk,if_pos h5]
theorem NA{L:List Cf}{k:Int}{key:Str}{h:Int}{s:Sd}(hs:s.has=true)(hk:¬k=6)(h5:¬(0<=h/\(L.getD h.toNat noC).cls=5)):Sq L k key h s=([],[s.val]):=by unfold Sq;rw[if_pos hs,if_neg hk,if_neg h5]
def EV(L:List Cf)(pick:List Int)(x:Tree):Prop:=∀(LA PA:Option Addr)(lc pc:Nat)(SL SP S:Nat->Prop)(w0:World)(cs:List Value),Rep SL w0 (.slice (L.map D5)) [.slice LA L.length lc]->Rep SP w0 (.slice (pick.map Kh)) [.slice PA pick.length pc]->Rep S w0 (Hb x) cs->OpT L.length x->Gl w0 ->
  Calls prog 73 #[.agg #[.slice LA L.length lc,.slice PA pick.length pc],.agg cs.toArray] w0 (Pc λv w'=>∃y:Sv,v=.agg y.cells.toArray/\Rep (Btw w0 w') w' (Od (Me L pick x)) y.cells/\Same [] w0 w')
theorem O3{M:Nat}{x:Tree}(h:Id x<=M):x.text.length<=M:=by
  cases x with
  | node k t ks xs=>rw[Id]at h;show t.length<=M;omega
theorem PP{k:Int}{t:Str}{ks:List Str}{xs:List Tree}(h:Td nodeB (.node k t ks xs)=true)(hk:k=6):ks.length=xs.length:=by
  have h1:=(Tf h).1;subst hk;unfold nodeB at h1;simp at h1;have h2:=h1.1;unfold Qn at h2;simp at h2;omega
theorem WM(L:List Cf)(pick:List Int)(hlp:L.length=pick.length)(hLs:∀c∈L,CfS c)(k:Int)(t:Str)(ks:List Str)(xs:List Tree)(ih:∀x,x∈xs->EV L pick x):EV L pick (.node k t ks xs):=by
  intro LA PA lc pc SL SP S w0 cs hL hP hR hop hG;obtain⟨A,c,B,e,rfl,hk0,ht0,hKs,hX⟩:=hR.tree_inv;have hXl:=hX.slice_len;have hLl:=hL.slice_len;have hPl:=hP.slice_len;simp only[rQ]at hLl hPl;have hsz:=hop.sz;rw[Mb]at hsz;have hxn:=Ll xs;have htm:=O3 hop.mx;have htl:t.length<=140737488355328:=by simp only[Tree.text]at htm;omega
  have hkm:∀s∈ks,s.length<=16777216:=X_ hop.mx;refine Ea func73 O ntmps73 Db (Lc _ _) ?_;have hF:=FR.start w0 [];refine Fa (Ha ?_);refine Le hF O ?_;intro b1 w hb1 hF hE;refine Le hF O ?_;intro b2 w hb2 hF hE;refine Jc (cs:=#[.bool false,J 0,I [],aQ,aQ]) hF lX O ?_;intro b3 w hb3 hF hE;refine Ua (Ga ?_);refine Fa (Fa ?_);refine Ha (Tb (He aZ mZ O hF.F 1 O O) ?_);refine Oa hF (GK ⟨k,t,A,ks.length,c,B,xs.length,e⟩ htl _ (hG.ext hF.same)) (Ma GQ O O) ?_;intro w hF;refine Aa (Lb O) (Ua ?_);refine Ga (Fa ?_);refine Ha (Aa (Gb O) ?_);refine Aa (T6 O O) (Ua ?_);refine Ga (Pb O O (λhc0=>?_) (λhc0=>?_))
  ·
   have hc0i:=hc0;obtain⟨i0,hi0,hhx⟩:=MK hop.hol hc0;have hi0p:i0<pick.length:=by omega
   obtain⟨ad0,cq0,hAd0,hcq0,hcf0⟩:=hL.cf_elem hi0;rw[hhx];refine Fa (Zc (zs:=.of []) (bQ [0,1,2,3,4,5,6,7,8,9] (.alt 10 (bQ [11,12,13] (.act 14 (.act 15 (.free 16 .nil)))) (.act 14 (.act 10 (bQ [11,12,13] (.act 15 (.free 16 .nil))))))) hF ?_);intro w hF;refine Fb O (Ob Ws O) (Sf O (Ff isAgg58 O C0 2 O O) ?_);refine Fb O (Gb O) (Bb O (v:=.pointer (some (ad0.add (i0*17)))) (λw hC=>Sa (i:=(i0:Int)) Gx O hAd0 O Ba Ba) ?_);refine Bb O (v:=.agg #[.slice cq0.A cq0.n cq0.c,J (cq0.k),.bool (cq0.x.h),J (cq0.x.v.k),I (cq0.x.v.t),.slice cq0.x.v.A cq0.x.v.n cq0.x.v.c,.slice cq0.x.v.B cq0.x.v.m cq0.x.v.e,.bool (cq0.y.h),J (cq0.y.v.k),I (cq0.y.v.t),.slice cq0.y.v.A cq0.y.v.n cq0.y.v.c,.slice cq0.y.v.B cq0.y.v.m cq0.y.v.e,.bool (cq0.z.h),J (cq0.z.v.k),I (cq0.z.v.t),.slice cq0.z.v.A cq0.z.v.n cq0.z.v.c,.slice cq0.z.v.B cq0.z.v.m cq0.z.v.e]) (λw hC=>Xa (l:=cq0.cells) cZ oZ O O (hC.cells0 hcq0)) (Fb O (Ob J3 O) ?_);refine Sf O (Ff isAgg54 O C0 2 O O) (Fb O (Gb O) ?_);obtain⟨ad0,hA0,hk0,hx0⟩:=hP.int_elem (i:=i0) (hi0p);refine Bb O (v:=.pointer (some (ad0.add (i0*1)))) (λw hC=>Sa (i:=(i0:Int)) R7 O hA0 O Ba Ba) (Bb O (v:=J (pick[i0])) (λw hC=>Ad dZ O (hC.cell0 hk0)) ?_);refine Yv ?_ ?_
   ·
    refine Uc O (Mq L[i0] cq0 pick[i0] _ _ (hcf0.ext hF.same) (hLs _ (eQ _)).ok (hG.ext hF.same)) (Ra Z8 O O O) ?_;rintro _ w ⟨y,rfl,hRt,hE⟩;have hY:=RX.made (ids:=[b3,b2,b1]) hF.same.size (λx hx=>hF.lt_ids (by simpa using hx)) hRt;have hF:=hF.ext hE;clear hE hRt;refine⟨hF,?_⟩;refine Fb O (Ri O) (Fb O (Dq O O) ?_);refine Fb O (Jl O O) (Fr O (v:=λb=>V b) (o:=.cells #[.bool false,J 0,I [],aQ,aQ] 27) hF (Nh lX) ?_);intro b4 w hb4 hF hE;have hY:=hY.alloc hE hb4;refine⟨hF.drop 1,?_⟩;refine Wm O hF nZ O O Qg ?_;intro w hF hE;have hY:=hY.store hE (by grind);refine⟨hF.drop 1,?_⟩;refine Fb O (Jb O) (Ac ?_);refine Ga (Fa ?_);refine Ha (Tb (He bZ nZ O hF.F 0 O O) ?_);refine Xd hF nZ O O Mr ?_;intro w hF hE;have hY:=hY.store hE (by grind);refine Ua (Ga ?_);refine Ab (Za (Ka (Uh O (l:=y.cells) O bZ nZ O (hF.cellsAll 1 O)) ?_));have e0:Me L pick (.node k t ks xs)=(Pi L[i0] pick[i0]).1:=by rw[Sz (by rw[Ft];exact hc0i),Ft];show Zq L pick (Sp k t)=_;rw[hhx];unfold Zq;simp[List.getD,hi0,hi0p]
    rw[e0];exact⟨y,O,hY.done,hF.same⟩
   refine Fr O (v:=λb=>V b) (o:=.cells #[.bool false,J 0,I [],aQ,aQ] 27) hF (Nh lX) ?_;intro b5 w hb5 hF hE;refine⟨hF.drop 1,?_⟩;refine Uc O (Mq L[i0] cq0 pick[i0] _ _ (hcf0.ext hF.same) (hLs _ (eQ _)).ok (hG.ext hF.same)) (Ra Z8 O O O) ?_;rintro _ w ⟨y,rfl,hRt,hE⟩;have hY:=RX.made (ids:=[b5,b3,b2,b1]) hF.same.size (λx hx=>hF.lt_ids (by simpa using hx)) hRt;have hF:=hF.ext hE;clear hE hRt;refine⟨hF.drop 1,?_⟩;refine Fb O (Ri O) (Fb O (Dq O O) ?_);refine Fb O (Jl O O) (Wm O hF nZ O O Qg ?_);intro w hF hE;have hY:=hY.store hE (by grind);refine⟨hF.drop 1,?_⟩;refine Fb O (Jb O) (Ac ?_);refine Ga (Fa ?_);refine Ha (Tb (He bZ nZ O hF.F 0 O O) ?_);refine Xd hF nZ O O Mr ?_;intro w hF hE;have hY:=hY.store hE (by grind);refine Ua (Ga ?_);refine Ab (Za (Ka (Uh O (l:=y.cells) O bZ nZ O (hF.cellsAll 1 O)) ?_));have e0:Me L pick (.node k t ks xs)=(Pi L[i0] pick[i0]).1:=by rw[Sz (by rw[Ft];exact hc0i),Ft];show Zq L pick (Sp k t)=_;rw[hhx];unfold Zq;simp[List.getD,hi0,hi0p]
   rw[e0];exact⟨y,O,hY.done,hF.same⟩
  refine Na (Ga ?_);refine Fa (Ha ?_);refine Aa (Ob Se O) (Tb (Yi dZ O hF.F 1 O O) ?_);refine Aa (Ob Re O) (Tb (Rm iZ O hF.F 1 O O) ?_);refine Ja (w':=w) (v:=.agg #[J k,I t,aQ,aQ]) Ib (Ye hF kX mZ O ?_);intro b6 w hb6 hF hE;refine Ua (Ga ?_);refine Fa (Fa ?_);refine Ha (Aa (Ob Ub O) ?_);refine Tb (Ff zQ O hF.F 2 O O) (Aa (Ug yZ O) ?_);refine Aa (Gb O) (Ua ?_);refine Ga (Va ?_);refine Tc (λμ σ w=>∃(j:Nat),∃(ac:List Str × List Tree),∃(A1:Option Addr),∃(c1:Nat),∃(sk:List (Nat × Obj)),∃(A2:Option Addr),∃(c2:Nat),∃(si:List (Nat × Obj)),∃(vals:List Value),μ=xs.length-j/\(j<=xs.length)/\(Hh L pick k ks (xs.take j)=ac)/\(SlB 9 1 A1 ac.1.length c1 (ac.1.map λs=>Value.string (bs s)) sk)/\(SlB 25 4 A2 ac.2.length c2 vals si)/\(RX w0 ([b6,b3,b2,b1]++(ids sk++ids si)) w (ac.2.map Hb) vals)/\AllEq σ [(2,V b1),(3,V b2),(4,V b3),(8,V b6),(38,.slice B xs.length e),(39,J ((xs.length:Nat))),(40,J ((j:Int)))]/\FR w0 [] ([(b6,.cells #[J k,I t,.slice A1 ac.1.length c1,.slice A2 ac.2.length c2] 25),(b3,.cells #[.bool false,J 0,I [],aQ,aQ] 27),(b2,.cells #[J k,I t,.slice A ks.length c,.slice B xs.length e] 25),(b1,.cells #[.slice LA L.length lc,.slice PA pick.length pc] 111)]++(sk++(si++[]))) w) _ ⟨0,([],[]),none,0,[],none,0,[],[],O,(Nat.zero_le _),(by simp[Hh]),(SlB.nil _ _),(SlB.nil _ _),(RX.nil),N_,hF⟩ ?_;rintro μ σ w ⟨j,ac,A1,c1,sk,A2,c2,si,vals,rfl,hj,hac,hK,hI2,hV,hs,hF⟩;refine Cg.slots hs ?_;clear hs;intro σ;have hfl:=N3 hLs pick k ks xs j hj;rw[hac]at hfl;refine Fa (Ha ?_);refine Aa (Sl O O) (Ua ?_);refine Ga (Fa ?_);refine Pb O O (λhc1=>?_) (λhc1=>?_)
  ·
   refine Na (Ga ?_);refine Fa (Dn (λσ w=>∃(ac3:List Str × List Tree),∃(A3:Option Addr),∃(c3:Nat),∃(sk3:List (Nat × Obj)),∃(A4:Option Addr),∃(c4:Nat),∃(si3:List (Nat × Obj)),∃(vals3:List Value),(Hh L pick k ks (xs.take (j+1))=ac3)/\(j<xs.length)/\(SlB 9 1 A3 ac3.1.length c3 (ac3.1.map λs=>Value.string (bs s)) sk3)/\(SlB 25 4 A4 ac3.2.length c4 vals3 si3)/\(RX w0 ([b6,b3,b2,b1]++(ids sk3++ids si3)) w (ac3.2.map Hb) vals3)/\AllEq σ [(2,V b1),(3,V b2),(4,V b3),(8,V b6),(38,.slice B xs.length e),(39,J ((xs.length:Nat))),(40,J ((j:Int)))]/\FR w0 [] ([(b6,.cells #[J k,I t,.slice A3 ac3.1.length c3,.slice A4 ac3.2.length c4] 25),(b3,.cells #[.bool false,J 0,I [],aQ,aQ] 27),(b2,.cells #[J k,I t,.slice A ks.length c,.slice B xs.length e] 25),(b1,.cells #[.slice LA L.length lc,.slice PA pick.length pc] 111)]++(sk3++(si3++[]))) w) ?_ ?_)
   ·
    refine Va (Fa ?_);have hjx:j<xs.length:=by omega
    obtain⟨adz,cz,hAz,hlz,hkz,hrz⟩:=hX.tree_elem hjx;obtain⟨z,rfl,-⟩:=Di hrz;have hzp:=Ti hrz;have hzk:Zh xs[j]=Sp z.k z.t:=by rw[Ft,hzp.1,hzp.2.1]
    have hzm:=O3 (hop.kid (List.getElem_mem (l:=xs) hjx)).mx;have hzl:z.t.length<=140737488355328:=by rw[hzp.2.1];omega
    have hkid:0<=Sp z.k z.t->∃i,i<L.length/\Sp z.k z.t=(i:Int):=λh=>by rw[hzp.1,hzp.2.1]at h ⊢;have h9:=(hop.kid (List.getElem_mem (l:=xs) hjx)).hol;revert h h9;generalize xs[j]=u;intro h h9;cases u;exact MK h9 h
    skip
    refine Ha (Aa (Gb O) ?_);refine Ja (v:=.pointer (some (adz.add (j*4)))) (Sa (i:=(j:Int)) Mg O hAz O Ba Ba) (Ja (v:=.agg (z.cells).toArray) (Xa (l:=z.cells) aZ mZ O O (hF.cells0 hkz)) ?_);refine Jc (cs:=#[J 0,I [],aQ,aQ]) hF kX O ?_;intro b7 w hb7 hF hE;have hV:=hV.alloc hE hb7;refine Aa (Lb O) (Xd hF mZ O O Qg ?_);intro w hF hE;have hV:=hV.store hE La;refine Ua (Ga ?_);refine Fa (Ha ?_);refine Tb (He isAgg111 sizeOf111 O hF.F 4 O O) (Tb (He aZ mZ O hF.F 0 O O) ?_);refine Ya (ih _ (eQ _) LA PA lc pc _ _ _ _ z.cells (hF.rep hL) (hF.rep hP) (hF.rep hrz) (hop.kid (eQ _)) (hG.ext hF.same)) (Ra en_73 O O O) ?_;rintro _ w ⟨q,rfl,hRt,hE⟩;have hQ:=RX.made (ids:=(b7::([b6,b3,b2,b1]++(ids sk++ids si)))) hF.same.size (λx hx=>hF.lt_ids (by simp only[ids,jQ,List.map_cons,List.map_nil,qQ,mQ,oQ]at hx ⊢;grind)) hRt;have hF:=hF.ext hE;have hV:=hV.ext hE;clear hE hRt;refine Ye hF lX nZ O ?_;intro b8 w hb8 hF hE;have hV:=hV.alloc hE hb8;have hQ:=hQ.alloc hE hb8;refine Ua (Ga ?_);refine Fa (Ha ?_);refine Tb (He aZ mZ O hF.F 1 O O) (Ya (GK z hzl _ (hG.ext hF.same)) (Ma GQ O O) ?_);rintro _ w ⟨rfl,hE⟩;have hF:=hF.ext hE;have hV:=hV.ext hE;have hQ:=hQ.ext hE;refine Aa (Lb O) (Ua ?_);refine Ga (Va ?_);refine Fa ?_;have hqs:=Dd hQ.rep;refine Ha (Aa (Ob Ni O) ?_);refine Tb (D6 eZ O hF.F 0 O O) (Aa (Oh O) ?_);refine Aa (Jb O) (Ua ?_);refine Ga (Fe O O (λhc2=>?_) (λhc2=>?_))
    ·
     have hqn:(Me L pick xs[j]).has=false:=by rw[<-hqs.1];simpa using hc2
     refine Na (Cb ?_);refine Cb ?_;exact Xb ⟨(ac),(A1),(c1),(sk),(A2),(c2),(si),(vals),(by rw[Qf xs ks j hjx,hac,KY hqn,qQ,qQ]),(hjx),(hK),(hI2),(hV.sub (by intro x hx;simp only[ids,jQ,List.map_cons,List.map_nil,qQ,mQ,oQ]at hx ⊢;grind)),N_,hF.drop 2⟩
    have hqh:(Me L pick xs[j]).has=true:=by rw[<-hqs.1];simpa using hc2
    have hQv:=hqs.2.2.2.2;refine Fa (Ha ?_);refine Aa (Ob Se O) (Tb (Yi dZ O hF.F 4 O O) ?_);refine Aa (Yh O O) (Aa (Jb O) ?_);refine Ua (Ga ?_);refine Pb O O (λhc3=>?_) (λhc3=>?_)
    ·
     have hjk:j<ks.length:=by have:=PP hop.nod hc3;omega
     refine Ld ⟨[16,18],λwq=>FR w0 [] [(b8,.cells (q.cells).toArray 27),(b7,.cells (z.cells).toArray 25),(b3,.cells #[.bool false,J 0,I [],aQ,aQ] 27),(b2,.cells #[J k,I t,.slice A ks.length c,.slice B xs.length e] 25),(b1,.cells #[.slice LA L.length lc,.slice PA pick.length pc] 111)] wq,[11,12]⟩ (bQ [0,1,2,3,4,5,6,9,10,11,12] (.alt 7 (.alt 8 (.free 15 (cQ [13,14,16] (.free 17 (.act 18 .nil)))) (.act 13 (.act 8 (.free 15 (.act 14 (.act 16 (.free 17 (.act 18 .nil)))))))) (cQ [13,7,8] (.free 15 (.act 14 (.act 16 (.free 17 (.act 18 .nil)))))))) hF ?_;intro w hF hE;have hV:=hV.ext hE;have hQ:=hQ.ext hE;refine⟨λwq=>FR w0 [] [(b8,.cells (q.cells).toArray 27),(b7,.cells (z.cells).toArray 25),(b6,.cells #[J k,I t,.slice A1 ac.1.length c1,.slice A2 ac.2.length c2] 25),(b3,.cells #[.bool false,J 0,I [],aQ,aQ] 27),(b2,.cells #[J k,I t,.slice A ks.length c,.slice B xs.length e] 25),(b1,.cells #[.slice LA L.length lc,.slice PA pick.length pc] 111)] wq,hF.mid 0 6,?_⟩;refine Fb O (Ob Zd O) (Sf O (Ff yQ O C0 2 O O) ?_);refine Fb O (Ob Zd O) (Sf O (Ff yQ O C0 4 O O) ?_);refine Fb O (Gb O) ?_;obtain⟨ad1,hA1,hk1,hx1⟩:=hKs.str_elem (i:=j) (hjk);refine Bb O (v:=.pointer (some (ad1.add (j*1)))) (λw hC=>Sa (i:=(j:Int)) Wt O hA1 O Ba Ba) (Bb O (v:=I (ks[j])) (λw hC=>Ad iZ O (hC.cell0 hk1)) ?_);refine Fb O (Ob Ub O) (Sf O (Ff zQ O C0 2 O O) ?_);refine Fb O (Ob Xe O) (Fq O (v:=.agg (q.v.cells).toArray) (λw hC=>Xa (l:=q.v.cells) aZ mZ O O (hC.part 0 1 O O)) (λw hC=>Xa (l:=q.v.cells) aZ mZ O O (hC.part 0 1 O O)) ?_);refine Yv ?_ ?_
     ·
      refine Nf 1 O hF (Eb (cs:=#[I (ks[j])]) xZ rZ qX Ta Ta Ib) ?_;intro b9 w hb9 hF hE;have hV:=hV.alloc hE hb9;have hQ:=hQ.alloc hE hb9;refine⟨hF.mid 1 6,?_⟩;refine Yv ?_ ?_
      ·
       refine Jn [_,_,_,_,_,_,_] [sk,si] 0 (news:=[I (ks[j])]) (len':=(ac.1++[ks[j]]).length) (ys:=((ac.1++[ks[j]]).map λs=>Value.string (bs s))) O WE hF hK O O (O) (λ_=>⟨_,O,Yc (hF.cellsAll 0 O)⟩) (by simp[Value.oneCell']) (by simp only[maxLen];omega) La La Ba ?_;intro A2 c2 k_2 w hS2_k hF hE hnew;have hsub:∀x∈(sk).map (·.1),x∈ids sk:=λ_ h=>h;have hV:=hV.grow hE hnew (λx hx=>by have:=hsub x hx;simp[this]);have hQ:=hQ.grow hE hnew (λx hx=>by have:=hsub x hx;simp[this]);clear hsub;refine⟨hF.mid 1 6,?_⟩;refine Fb O (Ob Zd O) (Nf 1 O hF (Eb (cs:=(q.v.cells).toArray) yZ mZ kX Ta Ta Ib) ?_);intro b10 w hb10 hF hE;have hV:=hV.alloc hE hb10;have hQ:=hQ.alloc hE hb10;refine⟨hF.mid 2 6,?_⟩;refine Jn [_,_,_,_,_,_,_,_] [k_2,si] 1 (news:=[J (q.v.k),I (q.v.t),.slice q.v.A q.v.n q.v.c,.slice q.v.B q.v.m q.v.e]) (len':=(ac.2++[(Me L pick xs[j]).val]).length) (ys:=vals++q.v.cells) O Kr hF hI2 O O (O) (λ_=>⟨_,O,Yc (hF.cellsAll 0 O)⟩) (by simp[Value.oneCell']) (by simp only[maxLen];omega) La (O) Ba ?_;intro A3 c3 i_3 w hS3_i hF hE hnew;have hsub:∀x∈(si).map (·.1),x∈ids si:=λ_ h=>h;have hV:=hV.grow hE hnew (λx hx=>by have:=hsub x hx;simp[this]);have hQ:=hQ.grow hE hnew (λx hx=>by have:=hsub x hx;simp[this]);clear hsub;refine⟨hF.mid 2 6,?_⟩;refine Q4 (.slice _ _ _) O hF sizeOf22 O O ZO Rw ?_;intro w hF hE;have hV:=hV.store hE La;have hQ:=hQ.store hE La;refine⟨hF.sub (.cons _ (.cons _ (.cons_cons _ (.cons_cons _ (.cons _ (.cons_cons _ (.cons_cons _ (.cons_cons _ (List.nil_sublist _))))))))),?_⟩;refine Fb O (Ob Ub O) (Q4 (.slice _ _ _) O hF lZ O O ZO U1 ?_);intro w hF hE;have hV:=hV.store hE La;have hQ:=hQ.store hE La;refine⟨hF.sub (.cons _ (.cons _ (.cons_cons _ (.cons_cons _ (.cons _ (.cons_cons _ (.cons_cons _ (.cons_cons _ (List.nil_sublist _))))))))),?_⟩
       refine Ac (Cb ?_);refine Cb ?_;exact Xb ⟨((ac.1++[ks[j]],ac.2++[(Me L pick xs[j]).val])),(A2),(c2),(k_2),(A3),(c3),(i_3),(vals++q.v.cells),(by rw[Qf xs ks j hjx,hac,F2 hqh (by assumption),show ks.getD j []=ks[j] by simp[List.getD,hjk]]),(hjx),(hS2_k),(hS3_i),(by rw[jQ];exact (hV.append (RX.one (Dd hQ.rep).2.2.2.2)).sub (by intro x hx;simp only[ids,jQ,List.map_cons,List.map_nil,qQ,mQ,oQ]at hx ⊢;grind)),N_,hF.drop 4⟩
      refine Nf 1 O hF (Eb (cs:=(q.v.cells).toArray) yZ mZ kX Ta Ta Ib) ?_;intro b11 w hb11 hF hE;have hV:=hV.alloc hE hb11;have hQ:=hQ.alloc hE hb11;refine⟨hF.mid 2 6,?_⟩;refine Jn [_,_,_,_,_,_,_,_] [sk,si] 0 (news:=[I (ks[j])]) (len':=(ac.1++[ks[j]]).length) (ys:=((ac.1++[ks[j]]).map λs=>Value.string (bs s))) O WE hF hK O O (O) (λ_=>⟨_,O,Yc (hF.cellsAll 1 O)⟩) (by simp[Value.oneCell']) (by simp only[maxLen];omega) La La Ba ?_;intro A4 c4 k_4 w hS4_k hF hE hnew;have hsub:∀x∈(sk).map (·.1),x∈ids sk:=λ_ h=>h;have hV:=hV.grow hE hnew (λx hx=>by have:=hsub x hx;simp[this]);have hQ:=hQ.grow hE hnew (λx hx=>by have:=hsub x hx;simp[this]);clear hsub;refine⟨hF.mid 2 6,?_⟩;refine Fb O (Ob Zd O) ?_;refine Jn [_,_,_,_,_,_,_,_] [k_4,si] 1 (news:=[J (q.v.k),I (q.v.t),.slice q.v.A q.v.n q.v.c,.slice q.v.B q.v.m q.v.e]) (len':=(ac.2++[(Me L pick xs[j]).val]).length) (ys:=vals++q.v.cells) O Kr hF hI2 O O (O) (λ_=>⟨_,O,Yc (hF.cellsAll 0 O)⟩) (by simp[Value.oneCell']) (by simp only[maxLen];omega) La (O) Ba ?_;intro A5 c5 i_5 w hS5_i hF hE hnew;have hsub:∀x∈(si).map (·.1),x∈ids si:=λ_ h=>h;have hV:=hV.grow hE hnew (λx hx=>by have:=hsub x hx;simp[this]);have hQ:=hQ.grow hE hnew (λx hx=>by have:=hsub x hx;simp[this]);clear hsub;refine⟨hF.mid 2 6,?_⟩;refine Q4 (.slice _ _ _) O hF sizeOf22 O O ZO Rw ?_;intro w hF hE;have hV:=hV.store hE La;have hQ:=hQ.store hE La;refine⟨hF.sub (.cons _ (.cons _ (.cons_cons _ (.cons_cons _ (.cons _ (.cons_cons _ (.cons_cons _ (.cons_cons _ (List.nil_sublist _))))))))),?_⟩;refine Fb O (Ob Ub O) (Q4 (.slice _ _ _) O hF lZ O O ZO U1 ?_);intro w hF hE;have hV:=hV.store hE La;have hQ:=hQ.store hE La;refine⟨hF.sub (.cons _ (.cons _ (.cons_cons _ (.cons_cons _ (.cons _ (.cons_cons _ (.cons_cons _ (.cons_cons _ (List.nil_sublist _))))))))),?_⟩
      refine Ac (Cb ?_);refine Cb ?_;exact Xb ⟨((ac.1++[ks[j]],ac.2++[(Me L pick xs[j]).val])),(A4),(c4),(k_4),(A5),(c5),(i_5),(vals++q.v.cells),(by rw[Qf xs ks j hjx,hac,F2 hqh (by assumption),show ks.getD j []=ks[j] by simp[List.getD,hjk]]),(hjx),(hS4_k),(hS5_i),(by rw[jQ];exact (hV.append (RX.one (Dd hQ.rep).2.2.2.2)).sub (by intro x hx;simp only[ids,jQ,List.map_cons,List.map_nil,qQ,mQ,oQ]at hx ⊢;grind)),N_,hF.drop 4⟩
     refine Nf 1 O hF (Eb (cs:=(q.v.cells).toArray) yZ mZ kX Ta Ta Ib) ?_;intro b12 w hb12 hF hE;have hV:=hV.alloc hE hb12;have hQ:=hQ.alloc hE hb12;refine⟨hF.mid 1 6,?_⟩;refine Nf 1 O hF (Eb (cs:=#[I (ks[j])]) xZ rZ qX Ta Ta Ib) ?_;intro b13 w hb13 hF hE;have hV:=hV.alloc hE hb13;have hQ:=hQ.alloc hE hb13;refine⟨hF.mid 2 6,?_⟩;refine Jn [_,_,_,_,_,_,_,_] [sk,si] 0 (news:=[I (ks[j])]) (len':=(ac.1++[ks[j]]).length) (ys:=((ac.1++[ks[j]]).map λs=>Value.string (bs s))) O WE hF hK O O (O) (λ_=>⟨_,O,Yc (hF.cellsAll 0 O)⟩) (by simp[Value.oneCell']) (by simp only[maxLen];omega) La La Ba ?_;intro A6 c6 k_6 w hS6_k hF hE hnew;have hsub:∀x∈(sk).map (·.1),x∈ids sk:=λ_ h=>h;have hV:=hV.grow hE hnew (λx hx=>by have:=hsub x hx;simp[this]);have hQ:=hQ.grow hE hnew (λx hx=>by have:=hsub x hx;simp[this]);clear hsub;refine⟨hF.mid 2 6,?_⟩;refine Fb O (Ob Zd O) ?_;refine Jn [_,_,_,_,_,_,_,_] [k_6,si] 1 (news:=[J (q.v.k),I (q.v.t),.slice q.v.A q.v.n q.v.c,.slice q.v.B q.v.m q.v.e]) (len':=(ac.2++[(Me L pick xs[j]).val]).length) (ys:=vals++q.v.cells) O Kr hF hI2 O O (O) (λ_=>⟨_,O,Yc (hF.cellsAll 1 O)⟩) (by simp[Value.oneCell']) (by simp only[maxLen];omega) La (O) Ba ?_;intro A7 c7 i_7 w hS7_i hF hE hnew;have hsub:∀x∈(si).map (·.1),x∈ids si:=λ_ h=>h;have hV:=hV.grow hE hnew (λx hx=>by have:=hsub x hx;simp[this]);have hQ:=hQ.grow hE hnew (λx hx=>by have:=hsub x hx;simp[this]);clear hsub;refine⟨hF.mid 2 6,?_⟩;refine Q4 (.slice _ _ _) O hF sizeOf22 O O ZO Rw ?_;intro w hF hE;have hV:=hV.store hE La;have hQ:=hQ.store hE La;refine⟨hF.sub (.cons _ (.cons _ (.cons_cons _ (.cons_cons _ (.cons _ (.cons_cons _ (.cons_cons _ (.cons_cons _ (List.nil_sublist _))))))))),?_⟩;refine Fb O (Ob Ub O) (Q4 (.slice _ _ _) O hF lZ O O ZO U1 ?_)
     intro w hF hE;have hV:=hV.store hE La;have hQ:=hQ.store hE La;refine⟨hF.sub (.cons _ (.cons _ (.cons_cons _ (.cons_cons _ (.cons _ (.cons_cons _ (.cons_cons _ (.cons_cons _ (List.nil_sublist _))))))))),?_⟩;refine Ac (Cb ?_);refine Cb ?_;exact Xb ⟨((ac.1++[ks[j]],ac.2++[(Me L pick xs[j]).val])),(A6),(c6),(k_6),(A7),(c7),(i_7),(vals++q.v.cells),(by rw[Qf xs ks j hjx,hac,F2 hqh (by assumption),show ks.getD j []=ks[j] by simp[List.getD,hjk]]),(hjx),(hS6_k),(hS7_i),(by rw[jQ];exact (hV.append (RX.one (Dd hQ.rep).2.2.2.2)).sub (by intro x hx;simp only[ids,jQ,List.map_cons,List.map_nil,qQ,mQ,oQ]at hx ⊢;grind)),N_,hF.drop 4⟩
    refine Fa (Ha ?_);refine Aa (Gb O) (Aa (T6 O O) ?_);refine Aa (Dc O) (Wb (d:=85) O (λhg8=>?_) (λhg8=>?_))
    ·
     obtain⟨i1,hi1,hh1⟩:=hkid Ba;obtain⟨ad1,cq1,hAd1,hcq1,hcf1⟩:=hL.cf_elem hi1;have hcl1:=hcf1.k;rw[hh1];refine Aa (Ob Ws O) (Tb (Ff isAgg58 O hF.F 5 O O) ?_);refine Aa (Gb O) (Ja (v:=.pointer (some (ad1.add (i1*17)))) (Sa (i:=(i1:Int)) Gx O hAd1 O Ba Ba) ?_);refine Ja (v:=.pointer (some ((ad1.add (i1*17)).add 1))) (Ed (a:=ad1.add (i1*17)) Tl O) (Ja (v:=J (cq1.k)) (Ad dZ O (hF.cell0 (hcq1 1 Db))) ?_);refine Aa (Yh O O) (Aa (Yb O O) ?_);refine Aa (Jb O) (Ua ?_);refine Ga (Pb O O (λhc4=>?_) (λhc4=>?_))
     ·
      have hqm:=(Ti hQv).2.2.2.1;obtain⟨eG,hrG,hGl_,hGc⟩:=((Ti hQv).2.2.2.2.2).slice_open (λd hd=>by rw[Pd]at hd;obtain⟨u,_,rfl⟩:=nQ.1 hd;exact Nc u);have hRG:RX w0 _ _ _ _:=hrG;have h5:0<=Zh xs[j]/\(L.getD (Zh xs[j]).toNat noC).cls=5:=by rw[hzk,hh1];exact⟨by omega,by rw[C8 hi1];omega⟩
      have hil:=(LE hLs pick k [] xs[j]).1;rw[RE hqh (by assumption) h5]at hil;simp only at hil;refine Ha (Aa (Ob Ub O) ?_);refine Tb (Ff zQ O hF.F 2 O O) (Aa (Ob Xe O) ?_);refine Aa (Ob Ub O) (Tb (Ff zQ O hF.F 0 O O) ?_);refine G_ [_,_,_,_,_,_] [sk,si] 1 (news:=eG) (len':=(ac.2++(Me L pick xs[j]).val.items).length) (ys:=vals++eG) Kr hF hI2 rfl rfl (hGl_) (λhk=>by obtain⟨ad,hA,hc⟩:=hGc hk;exact⟨ad,hA,Yc hc⟩) (Um hrG.one_) (by simp only[maxLen];omega) (by rw[dQ,<-hqm]) (rfl) Ba ?_;intro A9 c9 i_9 w hS9_i hF hE hnew;have hsub:∀x∈(si).map (·.1),x∈ids si:=λ_ h=>h;have hV:=hV.grow hE hnew (λx hx=>by have:=hsub x hx;simp[this]);have hQ:=hQ.grow hE hnew (λx hx=>by have:=hsub x hx;simp[this]);have hRG:=hRG.grow hE hnew (λx hx=>by have:=hsub x hx;simp[this]);clear hsub;refine Aa (Ob Ub O) (Zj (.slice _ _ _) hF lZ O O Rw U1 ?_);intro w hF hE;have hV:=hV.store hE La;have hQ:=hQ.store hE La;have hRG:=hRG.store hE La;refine Ua (Cb ?_);refine Cb ?_;exact Xb ⟨((ac.1,ac.2++(Me L pick xs[j]).val.items)),(A1),(c1),(sk),(A9),(c9),(i_9),(vals++eG),(by rw[Qf xs ks j hjx,hac,RE hqh (by assumption) h5,qQ]),(hjx),(hK),(hS9_i),(by rw[jQ,<-Pd (Me L pick xs[j]).val.items];exact (hV.append hRG).sub (by intro x hx;simp only[ids,jQ,List.map_cons,List.map_nil,qQ,mQ,oQ]at hx ⊢;grind)),N_,hF.drop 2⟩
     have h5n:¬(0<=Zh xs[j]/\(L.getD (Zh xs[j]).toNat noC).cls=5):=by
       rintro⟨ha,hb⟩
       first
       | (rw[hzk]at ha;omega)
       | (rw[hzk,hh1,C8 hi1]at hb;omega)
     refine Ha (Aa (Ob Ub O) ?_);refine Tb (Ff zQ O hF.F 2 O O) (Aa (Ob Xe O) ?_);refine Ja (v:=.agg (q.v.cells).toArray) (Xa (l:=q.v.cells) aZ mZ O O (hF.part 0 1 O O)) (Ek 1 hF (Eb (cs:=(q.v.cells).toArray) yZ mZ kX Ta Ta Ib) ?_);intro b14 w hb14 hF hE;have hV:=hV.alloc hE hb14;have hQ:=hQ.alloc hE hb14;refine G_ [_,_,_,_,_,_,_] [sk,si] 1 (news:=[J (q.v.k),I (q.v.t),.slice q.v.A q.v.n q.v.c,.slice q.v.B q.v.m q.v.e]) (len':=(ac.2++[(Me L pick xs[j]).val]).length) (ys:=vals++q.v.cells) Kr hF hI2 O O (O) (λ_=>⟨_,O,Yc (hF.cellsAll 0 O)⟩) (by simp[Value.oneCell']) (by simp only[maxLen];omega) La (O) Ba ?_;intro A10 c10 i_10 w hS10_i hF hE hnew;have hsub:∀x∈(si).map (·.1),x∈ids si:=λ_ h=>h;have hV:=hV.grow hE hnew (λx hx=>by have:=hsub x hx;simp[this]);have hQ:=hQ.grow hE hnew (λx hx=>by have:=hsub x hx;simp[this]);clear hsub;refine Aa (Ob Ub O) (Zj (.slice _ _ _) hF lZ O O U1 U1 ?_);intro w hF hE;have hV:=hV.store hE La;have hQ:=hQ.store hE La;refine Ua (Cb ?_);refine Cb ?_;exact Xb ⟨((ac.1,ac.2++[(Me L pick xs[j]).val])),(A1),(c1),(sk),(A10),(c10),(i_10),(vals++q.v.cells),(by rw[Qf xs ks j hjx,hac,NA hqh (by assumption) h5n,qQ]),(hjx),(hK),(hS10_i),(by rw[jQ];exact (hV.append (RX.one (Dd hQ.rep).2.2.2.2)).sub (by intro x hx;simp only[ids,jQ,List.map_cons,List.map_nil,qQ,mQ,oQ]at hx ⊢;grind)),N_,hF.drop 3⟩
    refine Ia (Ia ?_);refine Ia (Ia ?_);refine Ia (Ia ?_);refine Ia (Aa (Bc O O) ?_);refine Aa (Jb O) (Ua ?_);refine Ga (We O ?_);have h5n:¬(0<=Zh xs[j]/\(L.getD (Zh xs[j]).toNat noC).cls=5):=by
      rintro⟨ha,hb⟩
      first
      | (rw[hzk]at ha;omega)
      | (rw[hzk,hh1,C8 hi1]at hb;omega)
    refine Ha (Aa (Ob Ub O) ?_);refine Tb (Ff zQ O hF.F 2 O O) (Aa (Ob Xe O) ?_);refine Ja (v:=.agg (q.v.cells).toArray) (Xa (l:=q.v.cells) aZ mZ O O (hF.part 0 1 O O)) (Ek 1 hF (Eb (cs:=(q.v.cells).toArray) yZ mZ kX Ta Ta Ib) ?_);intro b15 w hb15 hF hE;have hV:=hV.alloc hE hb15;have hQ:=hQ.alloc hE hb15;refine G_ [_,_,_,_,_,_,_] [sk,si] 1 (news:=[J (q.v.k),I (q.v.t),.slice q.v.A q.v.n q.v.c,.slice q.v.B q.v.m q.v.e]) (len':=(ac.2++[(Me L pick xs[j]).val]).length) (ys:=vals++q.v.cells) Kr hF hI2 O O (O) (λ_=>⟨_,O,Yc (hF.cellsAll 0 O)⟩) (by simp[Value.oneCell']) (by simp only[maxLen];omega) La (O) Ba ?_;intro A11 c11 i_11 w hS11_i hF hE hnew;have hsub:∀x∈(si).map (·.1),x∈ids si:=λ_ h=>h;have hV:=hV.grow hE hnew (λx hx=>by have:=hsub x hx;simp[this]);have hQ:=hQ.grow hE hnew (λx hx=>by have:=hsub x hx;simp[this]);clear hsub;refine Aa (Ob Ub O) (Zj (.slice _ _ _) hF lZ O O U1 U1 ?_);intro w hF hE;have hV:=hV.store hE La;have hQ:=hQ.store hE La;refine Ua (Cb ?_);refine Cb ?_;exact Xb ⟨((ac.1,ac.2++[(Me L pick xs[j]).val])),(A1),(c1),(sk),(A11),(c11),(i_11),(vals++q.v.cells),(by rw[Qf xs ks j hjx,hac,NA hqh (by assumption) h5n,qQ]),(hjx),(hK),(hS11_i),(by rw[jQ];exact (hV.append (RX.one (Dd hQ.rep).2.2.2.2)).sub (by intro x hx;simp only[ids,jQ,List.map_cons,List.map_nil,qQ,mQ,oQ]at hx ⊢;grind)),N_,hF.drop 3⟩
   rintro σ w ⟨ac3,A3,c3,sk3,A4,c4,si3,vals3,hac3,hjx,hK3,hI3,hV3,hs,hF⟩;refine Eg.slots hs ?_;clear hs;intro σ;refine Ga (Ha ?_);refine Aa (Bo (((j+1:Nat):Int)) O O) (Aa (Gb O) ?_);refine Ua (Xb ⟨_,?_,j+1,ac3,A3,c3,sk3,A4,c4,si3,vals3,O,Ba,(hac3),(hK3),(hI3),(hV3),N_,hF⟩);omega
  refine Kc (Ec O ?_);refine Ga (Fa ?_);refine Ha (Tb (He aZ mZ O hF.F 0 O O) ?_);refine Ya (VZ ⟨k,t,A1,ac.1.length,c1,A2,ac.2.length,c2⟩ _) (Ma CP O O) ?_;rintro _ w ⟨rfl,hE⟩;have hF:=hF.ext hE;have hV:=hV.ext hE;refine Xd hF nZ O O Mr ?_;intro w hF hE;have hV:=hV.store hE La;refine Ua (Ga ?_);refine Ab (Za (Ka (Uh O (l:=[.bool true,J k,I t,.slice A1 ac.1.length c1,.slice A2 ac.2.length c2]) O bZ nZ O (hF.cellsAll 1 O)) ?_));obtain rfl:j=xs.length:=by omega
  have e0:Me L pick (.node k t ks xs)=⟨true,.node k t ac.1 ac.2⟩:=by rw[Me,if_neg (by rw[Ft];exact hc0),<-hac,List.take_length]
  rw[e0];have hkl:∀s∈ac.1,s.length<=9223372036854775807:=λs hs=>by rw[<-hac]at hs;rcases Cs _ (gQ _) s hs with h|h;(have:=hkm s h;omega);(rw[h];simp)
  refine⟨⟨true,k,t,A1,ac.1.length,c1,A2,ac.2.length,c2⟩,O,F3 (s:=⟨true,.node k t ac.1 ac.2⟩) (x:=⟨k,t,A1,ac.1.length,c1,A2,ac.2.length,c2⟩) (Rep.tree_mk ⟨by omega,by omega⟩ Ba ?_ ?_),hF.same⟩
  ·exact hK.rep (pre:=[_,_,_,_]) hF (RX.strs (ids:=([b6,b3,b2,b1]++(ids sk++ids si))) hkl) La
  rw[Pd];exact hI2.rep (pre:=[_,_,_,_]++sk) (post:=[]) (by simpa using hF) hV La
theorem GU(L:List Cf)(pick:List Int)(hlp:L.length=pick.length)(hLs:∀c∈L,CfS c)(x:Tree):EV L pick x:=Tree.ind (WM L pick hlp hLs) x
theorem QQ{L:List Cf}(hL:∀c∈L,CfS c)(pick:List Int)(k:Int)(key:Str)(x:Tree):Vb (Sq L k key (Zh x) (Me L pick x)).2<=Mb (Me L pick x).val:=by
  unfold Sq;split
  ·split
   ·simp[Vb]
   split
   ·have:=Ju (Me L pick x).val;show Vb (Me L pick x).val.items<=_;omega
   simp[Vb]
  simp[Vb]
theorem GW{L:List Cf}(pick:List Int)(k:Int)(key:Str)(x:Tree){M:Nat}(h:Id (Me L pick x).val<=M):∀y∈(Sq L k key (Zh x) (Me L pick x)).2,Id y<=M:=by
  unfold Sq;split
  ·split
   ·intro y hy;rw[pQ.1 hy];exact h
   split
   ·exact R5 h
   intro y hy;rw[pQ.1 hy];exact h
  intro y hy;cases hy
theorem DT{L:List Cf}(hL:∀c∈L,CfS c)(pick:List Int)(x:Tree):Id x<=16777216->Mb (Me L pick x).val<=257*Mb x/\Id (Me L pick x).val<=16777216 :=
  Tree.ind (Q:=λx=>Id x<=16777216->Mb (Me L pick x).val<=257*Mb x/\Id (Me L pick x).val<=16777216) (λk t ks xs ih hm=>by
    by_cases h0:0<=Zh (.node k t ks xs)
    ·rw[Sz h0]
     have:=G3 hL pick (Zh (.node k t ks xs));have:=F7 (.node k t ks xs);exact⟨by omega,by omega⟩
    rw[Me, if_neg h0];have key:∀j,j<=xs.length->Vb (Hh L pick k ks (xs.take j)).2<=257*Vb (xs.take j)/\∀y∈(Hh L pick k ks (xs.take j)).2,Id y<=16777216:=by
      intro j
      induction j with
      | zero=>intro _;simp[Hh,Vb]
      | succ j ihj =>
        intro hj;obtain⟨h1,h2⟩:=ihj Ba;have hx:xs[j]' Ba∈xs:=eQ _;obtain⟨h3,h4⟩:=ih _ hx (R5 (x:=.node k t ks xs) hm _ hx);rw[Qf xs ks j Ba];have h5:=QQ hL pick k (ks.getD j []) (xs[j]' Ba);have h6:Vb (xs.take (j+1))=Vb (xs.take j)+Mb (xs[j]' Ba):=by rw[iQ Ba,Ij];simp[Vb]
        refine⟨by rw[Ij,h6];omega,λy hy=>?_⟩;rcases mQ.1 hy with hy|hy
        ·exact h2 y hy
        exact GW pick k _ _ h4 y hy
    obtain⟨h1,h2⟩:=key xs.length (gQ _);rw[List.take_length]at h1 h2;refine⟨by rw[Mb,Mb];omega,?_⟩;have h7:=Nw h2;have h8:Uj (Hh L pick k ks xs).1<=16777216:=Bw λs hs=>by
      have hs':=hs;rw[<-List.take_length (l:=xs)]at hs';rcases Cs xs.length (gQ _) s hs' with h|h
      ·exact X_ (x:=.node k t ks xs) hm s h
      rw[h];simp
    have h9:=O3 (x:=.node k t ks xs) hm;simp only[Tree.text]at h9;rw[Id];omega) x
theorem W0{v:Tree}{L:List Cf}{pick:List Int}(h:¬(Kg v=true/\Vp v L pick=true)):Dj v L pick=(zeroT,1):=if_neg h
theorem Ls{v:Tree}{L:List Cf}{pick:List Int}(h:Kg v=true/\Vp v L pick=true):Dj v L pick=if (Me L pick v).has=true then (if Gf (Me L pick v).val=true then ((Me L pick v).val,0) else (zeroT,1)) else (zeroT,8):=if_pos h
theorem FM{v:Tree}(h:Kg v=true):Td nodeB v=true:=(Bool.and_eq_true_iff.1 h).2
theorem IQ{v:Tree}{L:List Cf}{pick:List Int}(h:Vp v L pick=true):L.length=pick.length:=by
  unfold Vp at h;rw[Bool.and_eq_true,decide_eq_true_eq]at h;exact h.1
theorem CE(L:List Cf)(pick:List Int)(LA PA:Option Addr)(lc pc:Nat)(SL SP:Nat->Prop)(t:Tree)(x:Tv)(SX:Nat->Prop)(w0:World)(hL:Rep SL w0 (.slice (L.map D5)) [.slice LA L.length lc])(hP:Rep SP w0 (.slice (pick.map Kh)) [.slice PA pick.length pc])(hLs:∀c∈L,CfS c)(hX:Rep SX w0 (Hb t) x.cells)(hol:HolIn L.length t)(hsz:Mb t<=512)(hmx:Id t<=16777216)(hG:Gl w0):Calls prog 48 #[.agg (x.cells).toArray,.slice LA L.length lc,.slice PA pick.length pc] w0 (Pc λv w'=>∃q:Tv,v=.tuple #[.agg q.cells.toArray,J (Dj t L pick).2]/\Rep (Btw w0 w') w' (Hb (Dj t L pick).1) q.cells/\Same [] w0 w'):=by
 refine Ea func48 O ntmps48 Db (Fk _ _ _) ?_;have hF:=FR.start w0 [];refine Da (Le hF O ?_);rintro b1 w hb1 hF -;refine Jc (cs:=#[J 0,I [],aQ,aQ]) hF kX O ?_;rintro b2 w hb2 hF -;refine Aa (Lb O) (Qb (Aa (Wd O) (Aa (Wd O) ?_)));refine Ja (w':=w) (v:=.agg #[.slice LA L.length lc,.slice PA pick.length pc]) Ib (Ye hF zeroValue111 sizeOf111 O ?_);rintro b3 w hb3 hF -;refine Ca (Fa (Da (Tb (He aZ mZ O hF.F 2 O O) ?_)));refine Oa hF (X2 t Ba _ _ x.cells (hF.rep hX) (Al _ Ba) (hG.ext hF.same)) (Ma YB O O) ?_;intro w hF;refine Aa (Oh O) (Aa (Dc O) ?_);refine Rc (d:=16) O (λhg0=>?_) (λhg0=>?_)
 ·
  refine Ia (Ia (Ia (Ia (Aa (Yb O O) (Ca (Fd O (Da ?_)))))));refine Ja (w':=w) (v:=.agg #[J 0,I [],aQ,aQ]) Ib (Xd hF mZ O O Mr ?_);rintro w hF -;refine Aa (Lb O) (Ca ?_);refine Ab (Za (Ka (Ic O (l:=[J 0,I [],aQ,aQ]) O aZ mZ O (hF.cellsAll 1 O) (v:=J 1) O) ?_));rw[W0 (by simp_all)];exact⟨O5,O,Dm _ _,hF.same⟩
 refine Tb (He isAgg111 sizeOf111 O hF.F 0 O O) (Tb (He aZ mZ O hF.F 2 O O) ?_);refine Oa hF (FY L pick LA PA lc pc _ _ t x _ _ (hF.rep hL) (hF.rep hP) (λc hc=>(hLs c hc).ok) (hF.rep hX) Ba (hG.ext hF.same)) (Ra en_72 O O O) ?_;intro w hF;refine Aa (Oh O) (Aa (Bc O O) (Ca ?_));refine Fe O O (λhc0=>?_) (λhc0=>?_)
 ·
  refine Da (Ja (w':=w) (v:=.agg #[J 0,I [],aQ,aQ]) Ib ?_);refine Xd hF mZ O O Mr ?_;rintro w hF -;refine Aa (Lb O) (Ca ?_);refine Ab (Za (Ka (Ic O (l:=[J 0,I [],aQ,aQ]) O aZ mZ O (hF.cellsAll 1 O) (v:=J 1) O) ?_));rw[W0 (by simp_all)];exact⟨O5,O,Dm _ _,hF.same⟩
 refine Na (Ga (Da (Tb (He isAgg111 sizeOf111 O hF.F 0 O O) (Tb (He aZ mZ O hF.F 2 O O) ?_))));have hgo:Kg t=true/\Vp t L pick=true:=by simp_all
 refine Ya (GU L pick (IQ hgo.2) hLs t LA PA lc pc _ _ _ _ x.cells (hF.rep hL) (hF.rep hP) (hF.rep hX) ⟨hol,FM hgo.1,hsz,hmx⟩ (hG.ext hF.same)) (Ra en_73 O O O) ?_;rintro _ w ⟨y,rfl,hRt,hE⟩;have hY:=RX.made (ids:=[b3,b2,b1]) hF.same.size (λx hx=>hF.lt_ids (by simpa using hx)) hRt;have hyp:=Dd hRt;have hF:=hF.ext hE;clear hE hRt;have hfb:=DT hLs pick t hmx;refine Ye hF lX nZ O ?_;intro b4 w hb4 hF hE;have hY:=hY.alloc hE hb4;refine Ca (Fa (Va (Da (Aa (Ob Ni O) (Tb (D6 eZ O hF.F 0 O O) (Aa (Oh O) (Aa (Jb O) (Ca ?_))))))));refine Fe O O (λhc1=>?_) (λhc1=>?_)
 ·
  refine Da (Ja (w':=w) (v:=.agg #[J 0,I [],aQ,aQ]) Ib ?_);refine Xd hF mZ O O Rw ?_;intro w hF hE;have hY:=hY.store hE (by grind);refine Aa (Lb O) (Ca ?_);refine Ab (Za (Ka (Ic O (l:=[J 0,I [],aQ,aQ]) O aZ mZ O (hF.cellsAll 2 O) (v:=J 8) O) ?_));rw[show Dj t L pick=(zeroT,8) by rw[Ls hgo,if_neg (by rw[<-hyp.1];simp_all)]];exact⟨O5,O,Dm _ _,hF.same⟩
 refine Da (Aa (Ob Xe O) (Ja (v:=.agg (y.v.cells).toArray) (Xa (l:=y.v.cells) aZ mZ O O (hF.part 0 1 O O)) ?_));refine Ya (B0 (Me L pick t).val Ba _ _ y.v.cells (Dd hY.rep).2.2.2.2 (Al _ Ba) (hG.ext hF.same)) (Ma ZI O O) ?_;rintro _ w ⟨rfl,hE⟩;have hF:=hF.ext hE;have hY:=hY.ext hE;refine Aa (Oh O) (Aa (Jb O) (Ca ?_));refine Fe O O (λhc2=>?_) (λhc2=>?_)
 ·
  refine Da (Ja (w':=w) (v:=.agg #[J 0,I [],aQ,aQ]) Ib ?_);refine Xd hF mZ O O Rw ?_;intro w hF hE;have hY:=hY.store hE (by grind);refine Aa (Lb O) (Ca ?_);refine Ab (Za (Ka (Ic O (l:=[J 0,I [],aQ,aQ]) O aZ mZ O (hF.cellsAll 2 O) (v:=J 1) O) ?_));rw[show Dj t L pick=(zeroT,1) by rw[Ls hgo,if_pos (by rw[<-hyp.1];simp_all),if_neg (by simp_all)]];exact⟨O5,O,Dm _ _,hF.same⟩
 refine Na (Cb (Ga (Da (Aa (Ob Xe O) (Ja (v:=.agg (y.v.cells).toArray) (Xa (l:=y.v.cells) aZ mZ O O (hF.part 0 1 O O)) ?_)))));refine Xd hF mZ O O Rw ?_;intro w hF hE;have hY:=hY.store hE (by grind);refine Aa (Lb O) (Ca ?_);refine Ab (Za (Ka (Ic O (l:=y.v.cells) O aZ mZ O (hF.cellsAll 2 O) (v:=J 0) O) ?_));rw[show Dj t L pick=((Me L pick t).val,0) by rw[Ls hgo,if_pos (by rw[<-hyp.1];simp_all),if_pos (by simp_all)]];have hYd:=hY.done;exact⟨y.v,O,(Dd hYd).2.2.2.2,hF.same⟩
end Go.Scarf
