/- A part of the proof. -/
import Derived.Test.YtidlkjpohhbbcaaGreatDoorM13
set_option linter.all false
set_option maxHeartbeats 8000000
set_option maxRecDepth 10000
namespace Go.Scarf
open Go.RowKit Go.Proofs Go.Proofs.Tryz
theorem Zf{L:List Cf}{pick:List Int}{k:Int}:∀(xs:List Tree)(ks:List Str)(j:Nat)(hj:j<xs.length),
    Yh L pick k ks (xs.take (j+1))=((Yh L pick k ks (xs.take j)).1++(Vr L k (ks.getD j []) (Qi xs[j]) (Af L pick xs[j])).1,(Yh L pick k ks (xs.take j)).2++(Vr L k (ks.getD j []) (Qi xs[j]) (Af L pick xs[j])).2)
  | [],_,_,hj=>absurd hj La
  | x :: xs, ks, 0, _ => by
    simp only[List.take_succ_cons,List.take_zero,Yh,List.nil_append,qQ,List.getElem_cons_zero];cases ks <;> rfl
  | x :: xs, ks, j + 1, hj => by
    have ih:=Zf (L:=L) (pick:=pick) (k:=k) xs ks.tail j (by simpa using hj);rw[List.take_succ_cons,Yh,ih,List.take_succ_cons,Yh];have e:ks.tail.getD j []=ks.getD (j+1) []:=by cases ks <;> simp
    simp only[e,List.getElem_cons_succ,sQ]
structure CfS (c:Cf):Prop where
  rig:CfR c
  b:Db c.b.val<=256/\Ad c.b.val<=16777216
  l:Db c.l.val<=256/\Ad c.l.val<=16777216
  r:Db c.r.val<=256/\Ad c.r.val<=16777216
theorem CfS.ok{c:Cf}(h:CfS c):CfOk c:=⟨⟨by have:=h.b;omega,Rk _ (by have:=h.b;omega)⟩,⟨by have:=h.l;omega,Rk _ (by have:=h.l;omega)⟩,⟨by have:=h.r;omega,Rk _ (by have:=h.r;omega)⟩⟩
theorem W7{s:Sd}(h:SdR s):Zj s=s:=by
  rcases h with rfl|⟨h1,h2⟩
  ·rfl
  unfold Zj;rw[if_pos h1,DM h2,<-h1]
theorem PK{c:Cf}(h:CfS c)(pk:Int):Db (Fj c pk).1.val<=256/\Ad (Fj c pk).1.val<=16777216:=by
  obtain⟨r1,r2,r3,-⟩:=h.rig;unfold Fj;split
  ·rw[W7 r1];exact h.b
  split
  ·rw[W7 r2];exact h.l
  split
  ·rw[W7 r3];exact h.r
  simp[noS,zeroT,Db,Nb,Ad,Di,Jh]
theorem Y7{L:List Cf}(h:∀c∈L,CfS c)(pick:List Int)(i:Int):Db (Ct L pick i).val<=256/\Ad (Ct L pick i).val<=16777216:=by
  unfold Ct;by_cases hi:i.toNat<L.length
  ·have e : L.getD i.toNat noC = L[i.toNat] := by simp[List.getD, hi]
   rw[e];exact PK (h _ (eQ _)) _
  have e : L.getD i.toNat noC = noC := by simp[List.getD, Nat.not_lt.1 hi]
  rw[e];unfold Fj;have z:Zj noC.b=noS/\Zj noC.l=noS/\Zj noC.r=noS:=⟨rfl,rfl,rfl⟩;rw[z.1,z.2.1,z.2.2];split <;> (try split) <;> (try split) <;> simp[noS,zeroT,Db,Nb,Ad,Di,Jh]
theorem F3{L:List Cf}{pick:List Int}{x:Tree}(h:0<=Qi x):Af L pick x=Ct L pick (Qi x):=by cases x;rw[Af,if_pos h]
theorem TE{L:List Cf}(hL:∀c∈L,CfS c)(pick:List Int)(k:Int)(key:Str)(x:Tree):(Vr L k key (Qi x) (Af L pick x)).2.length<=256/\(Vr L k key (Qi x) (Af L pick x)).1.length<=1:=by
  unfold Vr;split
  ·split
   ·simp
   split
   ·rename_i h5
    rw[F3 h5.1];have h1:=(Y7 hL pick (Qi x)).1;have h2:=Bm (Ct L pick (Qi x)).val;have h3:=Mj (Ct L pick (Qi x)).val.items;refine⟨?_,by simp⟩;show (Ct L pick (Qi x)).val.items.length<=256;omega
   simp
  simp
theorem N6{L:List Cf}(hL:∀c∈L,CfS c)(pick:List Int)(k:Int)(ks:List Str)(xs:List Tree):∀j,j<=xs.length->(Yh L pick k ks (xs.take j)).2.length<=256*j/\(Yh L pick k ks (xs.take j)).1.length<=j
  | 0,_=>by simp[Yh]
  | j + 1, hj => by
    have ih:=N6 hL pick k ks xs j Aa;have h1:=TE hL pick k (ks.getD j []) (xs[j]' Aa);rw[Zf xs ks j Aa];simp only[dQ];omega
theorem Bv{L:List Cf}{pick:List Int}{k:Int}{ks:List Str}{xs:List Tree}:∀j,j<=xs.length->∀s∈(Yh L pick k ks (xs.take j)).1,s∈ks\/s=[]
  | 0,_=>λs hs=>by simp[Yh]at hs
  | j + 1, hj => λs hs => by
    rw[Zf xs ks j Aa]at hs;rcases mQ.1 hs with hs|hs
    ·exact Bv j Aa s hs
    have:s=ks.getD j []:=by
      unfold Vr at hs;split at hs
      ·split at hs
       ·simpa using hs
       split at hs <;> simp at hs
      simp at hs
    rw[this];by_cases hjk:j<ks.length
    ·left;simp[List.getD,hjk]
    right;simp[List.getD,Nat.not_lt.1 hjk]
def HolIn(n:Nat)(x:Tree):Prop:=∀t∈Fg x,∃i,i<n/\i<1000/\t=Dp i
theorem LP{n:Nat}{k:Int}{t:Str}{ks:List Str}{xs:List Tree}(h:HolIn n (.node k t ks xs))(h0:0<=Sr k t):∃i,i<n/\Sr k t=(i:Int):=by
  by_cases hk:k=7
  ·obtain⟨i, hi, hi2, e⟩ := h t (by rw[Fg, if_pos hk];simp)
   refine⟨i,hi,?_⟩;have:=FL hi2;rw[e,hk];exact this
  have : Sr k t = -1 := if_pos hk;omega
theorem HolIn.kid{n:Nat}{k:Int}{t:Str}{ks:List Str}{xs:List Tree}(h:HolIn n (.node k t ks xs)){x:Tree}(hx:x∈xs):HolIn n x:=λs hs=>h s (by
  rw[Fg,Yn];exact List.mem_append_right _ (List.mem_flatMap.2 ⟨x,hx,hs⟩))
structure OpT (n:Nat) (x:Tree):Prop where
  hol:HolIn n x
  nod:Zd nodeB x=true
  sz:Db x<=512
  mx:Ad x<=16777216
theorem OpT.kid{n:Nat}{k:Int}{t:Str}{ks:List Str}{xs:List Tree}(h:OpT n (.node k t ks xs)){x:Tree}(hx:x∈xs):OpT n x :=
  ⟨h.hol.kid hx,(Zg h.nod).2 x hx,by have:=h.sz;have:=Zk hx;rw[Db]at *;omega,by have:=h.mx;have:=Kl hx;rw[Ad]at *;omega⟩
theorem PD{L:List Cf}{i:Nat}(h:i<L.length):L.getD ((i:Nat):Int).toNat noC=L[i]:=by simp[List.getD,h]
theorem kidF_no{L:List Cf}{k:Int}{key:Str}{h:Int}{s:Sd}(hs:s.has=false):Vr L k key h s=([],[]):=by unfold Vr;rw[if_neg (by rw[hs];decide)]
theorem Z3{L:List Cf}{k:Int}{key:Str}{h:Int}{s:Sd}(hs:s.has=true)(hk:k=6):Vr L k key h s=([key],[s.val]):=by unfold Vr;rw[if_pos hs,if_pos hk]
theorem ZE{L:List Cf}{k:Int}{key:Str}{h:Int}{s:Sd}(hs:s.has=true)(hk:¬k=6)(h5:0<=h/\(L.getD h.toNat noC).cls=5):Vr L k key h s=([],s.val.items):=by unfold Vr;rw[if_pos hs,if_neg hk,if_pos h5]
theorem AG{L:List Cf}{k:Int}{key:Str}{h:Int}{s:Sd}(hs:s.has=true)(hk:¬k=6)(h5:¬(0<=h/\(L.getD h.toNat noC).cls=5)):Vr L k key h s=([],[s.val]):=by unfold Vr;rw[if_pos hs,if_neg hk,if_neg h5]
def FillC(L:List Cf)(pick:List Int)(x:Tree):Prop:=∀(LA PA:Option Addr)(lc pc:Nat)(SL SP S:Nat->Prop)(w0:World)(cs:List Value),Rep SL w0 (.slice (L.map VJ)) [.slice LA L.length lc]->Rep SP w0 (.slice (pick.map Ai)) [.slice PA pick.length pc]->Rep S w0 (Jb x) cs->OpT L.length x->Gl w0 ->
  Calls prog 102 #[.agg #[.slice LA L.length lc,.slice PA pick.length pc],.agg cs.toArray] w0 (Oc λv w'=>∃y:Sv,v=.agg y.cells.toArray/\Rep (Btw w0 w') w' (Se (Af L pick x)) y.cells/\Same [] w0 w')
theorem F7{M:Nat}{x:Tree}(h:Ad x<=M):x.text.length<=M:=by
  cases x with
  | node k t ks xs=>rw[Ad]at h;show t.length<=M;omega
theorem XZ{k:Int}{t:Str}{ks:List Str}{xs:List Tree}(h:Zd nodeB (.node k t ks xs)=true)(hk:k=6):ks.length=xs.length:=by
  have h1:=(Zg h).1;subst hk;unfold nodeB at h1;simp at h1;have h2:=h1.1;unfold So at h2;simp at h2;omega
theorem qQq(L:List Cf)(pick:List Int)(hlp:L.length=pick.length)(hLs:∀c∈L,CfS c)(k:Int)(t:Str)(ks:List Str)(xs:List Tree)(ih:∀x,x∈xs->FillC L pick x):FillC L pick (.node k t ks xs):=by
 intro LA PA lc pc SL SP S w0 cs hL hP hR hop hG;obtain⟨A,c,B,e,rfl,hk0,ht0,hKs,hX⟩:=hR.tree_inv;have hXl:=hX.slice_len;have hLl:=hL.slice_len;have hPl:=hP.slice_len;simp only[rQ]at hLl hPl;have hsz:=hop.sz;rw[Db]at hsz;have hxn:=Mj xs;have htm:=F7 hop.mx;have htl:t.length<=140737488355328:=by simp only[Tree.text]at htm;omega
 have hkm:∀s∈ks,s.length<=16777216:=EH hop.mx;refine Ea func102 O ntmps102 Bb (Nc _ _) ?_;have hF:=FR.start w0 [];refine Da (Df hF O ?_);rintro b1 w hb1 hF -;refine Df hF O ?_;rintro b2 w hb2 hF -;refine Gc (cs:=#[.bool false,J 0,I [],aQ,aQ]) hF tX O ?_;rintro b3 w hb3 hF -;refine Ca (Fa (Da (Yb (Ig aZ oZ O hF.F 1 O O) ?_)));refine Qa hF (LO ⟨k,t,A,ks.length,c,B,xs.length,e⟩ htl _ (hG.ext hF.same)) (Ma KZ O O) ?_;intro w hF;refine Ba (Gb O) (Ob (Ba (Cb O) (Ba (V2 O O) (Ca ?_))));refine Lb O O (λhc0=>?_) (λhc0=>?_)
 ·
  have hc0i:=hc0;obtain⟨i0,hi0,hhx⟩:=LP hop.hol hc0;have hi0p:i0<pick.length:=by omega
  obtain⟨ad0,cq0,hAd0,hcq0,hcf0⟩:=hL.cf_elem hi0;rw[hhx];refine Fa (Be (zs:=.of []) (bQ [0,1,2,3,4,5,6,7,8,9] (.alt 10 (bQ [11,12,13] (.act 14 (.act 15 (.free 16 .nil)))) (.act 14 (.act 10 (bQ [11,12,13] (.act 15 (.free 16 .nil))))))) hF ?_);intro w hF;refine Hb O (Rb Pu O) (Nf O (Ff isAgg62 O C0 2 O O) (Hb O (Cb O) (Ab O (v:=.pointer (some (ad0.add (i0*17)))) (λw hC=>Ra (i:=(i0:Int)) Bz O hAd0 O Aa Aa) (Ab O (v:=.agg (cq0.cells).toArray) (λw hC=>Za (l:=cq0.cells) dZ qZ O O (hC.cells0 hcq0)) (Hb O (Rb Q7 O) (Nf O (Ff isAgg58 O C0 2 O O) (Hb O (Cb O) ?_)))))));obtain⟨ad0,hA0,hk0,hx0⟩:=hP.int_elem (i:=i0) (hi0p);refine Ab O (v:=.pointer (some (ad0.add (i0*1)))) (λw hC=>Ra (i:=(i0:Int)) H_ O hA0 O Aa Aa) (Ab O (v:=J (pick[i0])) (λw hC=>Yc xQ O (hC.cell0 hk0)) ?_);refine By ?_ ?_
  ·
   refine Cd O (Ks L[i0] cq0 pick[i0] _ _ (hcf0.ext hF.same) (hLs _ (eQ _)).ok (hG.ext hF.same)) (Ua MD O O O) ?_;rintro _ w ⟨y,rfl,hRt,hE⟩;have hY:=RX.made (ids:=[b3,b2,b1]) hF.same.size (λx hx=>hF.lt_ids (by simpa using hx)) hRt;have hF:=hF.ext hE;clear hE hRt;refine⟨hF,?_⟩;refine Hb O (Aj O) (Hb O (Ru O O) (Hb O (Xn O O) ?_));refine Et O (v:=λb=>V b) (o:=.cells #[.bool false,J 0,I [],aQ,aQ] 38) hF (Ei tX) ?_;intro b4 w hb4 hF hE;have hY:=hY.alloc hE hb4;refine⟨hF.drop 1,?_⟩;refine Aw O hF pZ O O Oi ?_;intro w hF hE;have hY:=hY.store hE (by grind);refine⟨hF.drop 1,?_⟩;refine Hb O (Kb O) (d_nil (Ga (Da (Yb (Ig bZ pZ O hF.F 0 O O) ?_))));refine Ke hF pZ O O Tr ?_;intro w hF hE;have hY:=hY.store hE (by grind);refine Ca (Xa (Va (Ka (Ni O (l:=y.cells) O bZ pZ O (hF.cellsAll 1 O)) ?_)));have e0:Af L pick (.node k t ks xs)=(Fj L[i0] pick[i0]).1:=by rw[F3 (by rw[Wv];exact hc0i),Wv];show Ct L pick (Sr k t)=_;rw[hhx];unfold Ct;simp[List.getD,hi0,hi0p]
   rw[e0];exact⟨y,O,hY.done,hF.same⟩
  refine Et O (v:=λb=>V b) (o:=.cells #[.bool false,J 0,I [],aQ,aQ] 38) hF (Ei tX) ?_;rintro b5 w hb5 hF -;refine⟨hF.drop 1,?_⟩;refine Cd O (Ks L[i0] cq0 pick[i0] _ _ (hcf0.ext hF.same) (hLs _ (eQ _)).ok (hG.ext hF.same)) (Ua MD O O O) ?_;rintro _ w ⟨y,rfl,hRt,hE⟩;have hY:=RX.made (ids:=[b5,b3,b2,b1]) hF.same.size (λx hx=>hF.lt_ids (by simpa using hx)) hRt;have hF:=hF.ext hE;clear hE hRt;refine⟨hF.drop 1,?_⟩;refine Hb O (Aj O) (Hb O (Ru O O) (Hb O (Xn O O) ?_));refine Aw O hF pZ O O Oi ?_;intro w hF hE;have hY:=hY.store hE (by grind);refine⟨hF.drop 1,?_⟩;refine Hb O (Kb O) (d_nil (Ga (Da (Yb (Ig bZ pZ O hF.F 0 O O) ?_))));refine Ke hF pZ O O Tr ?_;intro w hF hE;have hY:=hY.store hE (by grind);refine Ca (Xa (Va (Ka (Ni O (l:=y.cells) O bZ pZ O (hF.cellsAll 1 O)) ?_)));have e0:Af L pick (.node k t ks xs)=(Fj L[i0] pick[i0]).1:=by rw[F3 (by rw[Wv];exact hc0i),Wv];show Ct L pick (Sr k t)=_;rw[hhx];unfold Ct;simp[List.getD,hi0,hi0p]
  rw[e0];exact⟨y,O,hY.done,hF.same⟩
 refine Na (Ga (Da (Ba (Rb Ve O) (Yb (Pi xQ O hF.F 1 O O) (Ba (Rb Bf O) (Yb (Tn fZ O hF.F 1 O O) ?_))))));refine Ia (w':=w) (v:=.agg #[J k,I t,aQ,aQ]) Ib (Hf hF sX oZ O ?_);rintro b6 w hb6 hF -;refine Ca (Fa (Da (Ba (Rb Xb O) (Yb (Ff zQ O hF.F 2 O O) (Ba (Qg jX O) (Ba (Cb O) (Ca (Sa ?_))))))));refine Rc (λμ σ w=>∃(j:Nat),∃(ac:List Str × List Tree),∃(A1:Option Addr),∃(c1:Nat),∃(sk:List (Nat × Obj)),∃(A2:Option Addr),∃(c2:Nat),∃(si:List (Nat × Obj)),∃(vals:List Value),μ=xs.length-j/\(j<=xs.length)/\(Yh L pick k ks (xs.take j)=ac)/\(SlB 9 1 A1 ac.1.length c1 (ac.1.map λs=>Value.string (bs s)) sk)/\(SlB 36 4 A2 ac.2.length c2 vals si)/\(RX w0 ([b6,b3,b2,b1]++(ids sk++ids si)) w (ac.2.map Jb) vals)/\AllEq σ [(2,V b1),(3,V b2),(4,V b3),(8,V b6),(38,.slice B xs.length e),(39,J ((xs.length:Nat))),(40,J ((j:Int)))]/\FR w0 [] ([(b6,.cells #[J k,I t,.slice A1 ac.1.length c1,.slice A2 ac.2.length c2] 36),(b3,.cells #[.bool false,J 0,I [],aQ,aQ] 38),(b2,.cells #[J k,I t,.slice A ks.length c,.slice B xs.length e] 36),(b1,.cells #[.slice LA L.length lc,.slice PA pick.length pc] 118)]++(sk++(si++[]))) w) _ ⟨0,([],[]),none,0,[],none,0,[],[],O,(Nat.zero_le _),(by simp[Yh]),(SlB.nil _ _),(SlB.nil _ _),(RX.nil),PE,hF⟩ ?_;rintro μ σ w ⟨j,ac,A1,c1,sk,A2,c2,si,vals,rfl,hj,hac,hK,hI2,hV,hs,hF⟩;refine Cg.slots hs ?_;clear hs;intro σ;have hfl:=N6 hLs pick k ks xs j hj;rw[hac]at hfl;refine Da (Ba (Dl O O) (Ca (Fa ?_)));refine Lb O O (λhc1=>?_) (λhc1=>?_)
 ·
  refine Na (Ga (Fa ?_));refine Eh (λσ w=>∃(ac3:List Str × List Tree),∃(A3:Option Addr),∃(c3:Nat),∃(sk3:List (Nat × Obj)),∃(A4:Option Addr),∃(c4:Nat),∃(si3:List (Nat × Obj)),∃(vals3:List Value),(Yh L pick k ks (xs.take (j+1))=ac3)/\(j<xs.length)/\(SlB 9 1 A3 ac3.1.length c3 (ac3.1.map λs=>Value.string (bs s)) sk3)/\(SlB 36 4 A4 ac3.2.length c4 vals3 si3)/\(RX w0 ([b6,b3,b2,b1]++(ids sk3++ids si3)) w (ac3.2.map Jb) vals3)/\AllEq σ [(2,V b1),(3,V b2),(4,V b3),(8,V b6),(38,.slice B xs.length e),(39,J ((xs.length:Nat))),(40,J ((j:Int)))]/\FR w0 [] ([(b6,.cells #[J k,I t,.slice A3 ac3.1.length c3,.slice A4 ac3.2.length c4] 36),(b3,.cells #[.bool false,J 0,I [],aQ,aQ] 38),(b2,.cells #[J k,I t,.slice A ks.length c,.slice B xs.length e] 36),(b1,.cells #[.slice LA L.length lc,.slice PA pick.length pc] 118)]++(sk3++(si3++[]))) w) ?_ ?_
  ·
   refine Sa (Fa ?_);have hjx:j<xs.length:=by omega
   obtain⟨adz,cz,hAz,hlz,hkz,hrz⟩:=hX.tree_elem hjx;obtain⟨z,rfl,-⟩:=Wh hrz;have hzp:=Fi hrz;have hzk:Qi xs[j]=Sr z.k z.t:=by rw[Wv,hzp.1,hzp.2.1]
   have hzm:=F7 (hop.kid (List.getElem_mem (l:=xs) hjx)).mx;have hzl:z.t.length<=140737488355328:=by rw[hzp.2.1];omega
   have hkid:0<=Sr z.k z.t->∃i,i<L.length/\Sr z.k z.t=(i:Int):=λh=>by rw[hzp.1,hzp.2.1]at h ⊢;have h9:=(hop.kid (List.getElem_mem (l:=xs) hjx)).hol;revert h h9;generalize xs[j]=u;intro h h9;cases u;exact LP h9 h
   skip
   refine Ja (Ba (Cb O) (Ia (v:=.pointer (some (adz.add (j*4)))) (Ra (i:=(j:Int)) Tg O hAz O Aa Aa) (Ia (v:=.agg (z.cells).toArray) (Za (l:=z.cells) aZ oZ O O (hF.cells0 hkz)) ?_)));refine Gc (cs:=#[J 0,I [],aQ,aQ]) hF sX O ?_;intro b7 w hb7 hF hE;have hV:=hV.alloc hE hb7;refine Ba (Gb O) (Ke hF oZ O O Oi ?_);intro w hF hE;have hV:=hV.store hE La;refine Ob (Yb (Ig isAgg118 sizeOf118 O hF.F 4 O O) (Yb (Ig aZ oZ O hF.F 0 O O) ?_));refine Ta (ih _ (eQ _) LA PA lc pc _ _ _ _ z.cells (hF.rep hL) (hF.rep hP) (hF.rep hrz) (hop.kid (eQ _)) (hG.ext hF.same)) (Ua KW O O O) ?_;rintro _ w ⟨q,rfl,hRt,hE⟩;have hQ:=RX.made (ids:=(b7::([b6,b3,b2,b1]++(ids sk++ids si)))) hF.same.size (λx hx=>hF.lt_ids (by simp only[ids,jQ,List.map_cons,List.map_nil,qQ,mQ,oQ]at hx ⊢;grind)) hRt;have hF:=hF.ext hE;have hV:=hV.ext hE;clear hE hRt;refine Hf hF tX pZ O ?_;intro b8 w hb8 hF hE;have hV:=hV.alloc hE hb8;have hQ:=hQ.alloc hE hb8;refine Ob (Yb (Ig aZ oZ O hF.F 1 O O) ?_);refine Ta (LO z hzl _ (hG.ext hF.same)) (Ma KZ O O) ?_;rintro _ w ⟨rfl,hE⟩;have hF:=hF.ext hE;have hV:=hV.ext hE;have hQ:=hQ.ext hE;refine Ba (Gb O) (Ca (Sa (Fa ?_)));have hqs:=Ze hQ.rep;refine Ja (Ba (Rb Sk O) (Yb (OE cZ O hF.F 0 O O) (Ba (Wi O) (Ba (Kb O) (Ca ?_)))));refine He O O (λhc2=>?_) (λhc2=>?_)
   ·
    have hqn:(Af L pick xs[j]).has=false:=by rw[<-hqs.1];simpa using hc2
    refine Na (Wa (Wa ?_));exact Qb ⟨(ac),(A1),(c1),(sk),(A2),(c2),(si),(vals),(by rw[Zf xs ks j hjx,hac,kidF_no hqn,qQ,qQ]),(hjx),(hK),(hI2),(hV.sub (by intro x hx;simp only[ids,jQ,List.map_cons,List.map_nil,qQ,mQ,oQ]at hx ⊢;grind)),PE,hF.drop 2⟩
   have hqh:(Af L pick xs[j]).has=true:=by rw[<-hqs.1];simpa using hc2
   have hQv:=hqs.2.2.2.2;refine Da (Ba (Rb Ve O) (Yb (Pi xQ O hF.F 4 O O) (Ba (Xh O O) (Ba (Kb O) (Ca ?_)))));refine Lb O O (λhc3=>?_) (λhc3=>?_)
   ·
    have hjk:j<ks.length:=by have:=XZ hop.nod hc3;omega
    refine Dd ⟨[16,18],λwq=>FR w0 [] [(b8,.cells (q.cells).toArray 38),(b7,.cells (z.cells).toArray 36),(b3,.cells #[.bool false,J 0,I [],aQ,aQ] 38),(b2,.cells #[J k,I t,.slice A ks.length c,.slice B xs.length e] 36),(b1,.cells #[.slice LA L.length lc,.slice PA pick.length pc] 118)] wq,[11,12]⟩ (bQ [0,1,2,3,4,5,6,9,10,11,12] (.alt 7 (.alt 8 (.free 15 (cQ [13,14,16] (.free 17 (.act 18 .nil)))) (.act 13 (.act 8 (.free 15 (.act 14 (.act 16 (.free 17 (.act 18 .nil)))))))) (cQ [13,7,8] (.free 15 (.act 14 (.act 16 (.free 17 (.act 18 .nil)))))))) hF ?_;intro w hF hE;have hV:=hV.ext hE;have hQ:=hQ.ext hE;refine⟨λwq=>FR w0 [] [(b8,.cells (q.cells).toArray 38),(b7,.cells (z.cells).toArray 36),(b6,.cells #[J k,I t,.slice A1 ac.1.length c1,.slice A2 ac.2.length c2] 36),(b3,.cells #[.bool false,J 0,I [],aQ,aQ] 38),(b2,.cells #[J k,I t,.slice A ks.length c,.slice B xs.length e] 36),(b1,.cells #[.slice LA L.length lc,.slice PA pick.length pc] 118)] wq,hF.mid 0 6,?_⟩;refine Hb O (Rb Oe O) (Nf O (Ff yQ O C0 2 O O) (Hb O (Rb Oe O) (Nf O (Ff yQ O C0 4 O O) (Hb O (Cb O) ?_))));obtain⟨ad1,hA1,hk1,hx1⟩:=hKs.str_elem (i:=j) (hjk);refine Ab O (v:=.pointer (some (ad1.add (j*1)))) (λw hC=>Ra (i:=(j:Int)) Jw O hA1 O Aa Aa) (Ab O (v:=I (ks[j])) (λw hC=>Yc fZ O (hC.cell0 hk1)) (Hb O (Rb Xb O) (Nf O (Ff zQ O C0 2 O O) (Hb O (Rb Ih O) ?_))));refine Xp O (v:=.agg (q.v.cells).toArray) (λw hC=>Za (l:=q.v.cells) aZ oZ O O (hC.part 0 1 O O)) (λw hC=>Za (l:=q.v.cells) aZ oZ O O (hC.part 0 1 O O)) (By ?_ ?_)
    ·
     refine Of 1 O hF (Fb (cs:=#[I (ks[j])]) iX sZ vX Oa Oa Ib) ?_;intro b9 w hb9 hF hE;have hV:=hV.alloc hE hb9;have hQ:=hQ.alloc hE hb9;refine⟨hF.mid 1 6,?_⟩;refine By ?_ ?_
     ·
      refine On [_,_,_,_,_,_,_] [sk,si] 0 (news:=[I (ks[j])]) (len':=(ac.1++[ks[j]]).length) (ys:=((ac.1++[ks[j]]).map λs=>Value.string (bs s))) O PF hF hK O O (O) (λ_=>⟨_,O,Tc (hF.cellsAll 0 O)⟩) (by simp[Value.oneCell']) (by simp only[maxLen];omega) La La Aa ?_;intro A2 c2 k_2 w hS2_k hF hE hnew;have hsub:∀x∈(sk).map (·.1),x∈ids sk:=λ_ h=>h;have hV:=hV.grow hE hnew (λx hx=>by have:=hsub x hx;simp[this]);have hQ:=hQ.grow hE hnew (λx hx=>by have:=hsub x hx;simp[this]);clear hsub;refine⟨hF.mid 1 6,?_⟩;refine Hb O (Rb Oe O) (Of 1 O hF (Fb (cs:=(q.v.cells).toArray) jX oZ sX Oa Oa Ib) ?_);intro b10 w hb10 hF hE;have hV:=hV.alloc hE hb10;have hQ:=hQ.alloc hE hb10;refine⟨hF.mid 2 6,?_⟩;refine On [_,_,_,_,_,_,_,_] [k_2,si] 1 (news:=[J (q.v.k),I (q.v.t),.slice q.v.A q.v.n q.v.c,.slice q.v.B q.v.m q.v.e]) (len':=(ac.2++[(Af L pick xs[j]).val]).length) (ys:=vals++q.v.cells) O Dt hF hI2 O O (O) (λ_=>⟨_,O,Tc (hF.cellsAll 0 O)⟩) (by simp[Value.oneCell']) (by simp only[maxLen];omega) La (O) Aa ?_;intro A3 c3 i_3 w hS3_i hF hE hnew;have hsub:∀x∈(si).map (·.1),x∈ids si:=λ_ h=>h;have hV:=hV.grow hE hnew (λx hx=>by have:=hsub x hx;simp[this]);have hQ:=hQ.grow hE hnew (λx hx=>by have:=hsub x hx;simp[this]);clear hsub;refine⟨hF.mid 2 6,?_⟩;refine X2 (.slice _ _ _) O hF sizeOf33 O O XU B0 ?_;intro w hF hE;have hV:=hV.store hE La;have hQ:=hQ.store hE La;refine⟨hF.sub (.cons _ (.cons _ (.cons_cons _ (.cons_cons _ (.cons _ (.cons_cons _ (.cons_cons _ (.cons_cons _ (List.nil_sublist _))))))))),?_⟩;refine Hb O (Rb Xb O) (X2 (.slice _ _ _) O hF nZ O O XU H8 ?_);intro w hF hE;have hV:=hV.store hE La;have hQ:=hQ.store hE La;refine⟨hF.sub (.cons _ (.cons _ (.cons_cons _ (.cons_cons _ (.cons _ (.cons_cons _ (.cons_cons _ (.cons_cons _ (List.nil_sublist _))))))))),?_⟩
      refine d_nil (Wa (Wa ?_));exact Qb ⟨((ac.1++[ks[j]],ac.2++[(Af L pick xs[j]).val])),(A2),(c2),(k_2),(A3),(c3),(i_3),(vals++q.v.cells),(by rw[Zf xs ks j hjx,hac,Z3 hqh (by assumption),show ks.getD j []=ks[j] by simp[List.getD,hjk]]),(hjx),(hS2_k),(hS3_i),(by rw[jQ];exact (hV.append (RX.one (Ze hQ.rep).2.2.2.2)).sub (by intro x hx;simp only[ids,jQ,List.map_cons,List.map_nil,qQ,mQ,oQ]at hx ⊢;grind)),PE,hF.drop 4⟩
     refine Of 1 O hF (Fb (cs:=(q.v.cells).toArray) jX oZ sX Oa Oa Ib) ?_;intro b11 w hb11 hF hE;have hV:=hV.alloc hE hb11;have hQ:=hQ.alloc hE hb11;refine⟨hF.mid 2 6,?_⟩;refine On [_,_,_,_,_,_,_,_] [sk,si] 0 (news:=[I (ks[j])]) (len':=(ac.1++[ks[j]]).length) (ys:=((ac.1++[ks[j]]).map λs=>Value.string (bs s))) O PF hF hK O O (O) (λ_=>⟨_,O,Tc (hF.cellsAll 1 O)⟩) (by simp[Value.oneCell']) (by simp only[maxLen];omega) La La Aa ?_;intro A4 c4 k_4 w hS4_k hF hE hnew;have hsub:∀x∈(sk).map (·.1),x∈ids sk:=λ_ h=>h;have hV:=hV.grow hE hnew (λx hx=>by have:=hsub x hx;simp[this]);have hQ:=hQ.grow hE hnew (λx hx=>by have:=hsub x hx;simp[this]);clear hsub;refine⟨hF.mid 2 6,?_⟩;refine Hb O (Rb Oe O) ?_;refine On [_,_,_,_,_,_,_,_] [k_4,si] 1 (news:=[J (q.v.k),I (q.v.t),.slice q.v.A q.v.n q.v.c,.slice q.v.B q.v.m q.v.e]) (len':=(ac.2++[(Af L pick xs[j]).val]).length) (ys:=vals++q.v.cells) O Dt hF hI2 O O (O) (λ_=>⟨_,O,Tc (hF.cellsAll 0 O)⟩) (by simp[Value.oneCell']) (by simp only[maxLen];omega) La (O) Aa ?_;intro A5 c5 i_5 w hS5_i hF hE hnew;have hsub:∀x∈(si).map (·.1),x∈ids si:=λ_ h=>h;have hV:=hV.grow hE hnew (λx hx=>by have:=hsub x hx;simp[this]);have hQ:=hQ.grow hE hnew (λx hx=>by have:=hsub x hx;simp[this]);clear hsub;refine⟨hF.mid 2 6,?_⟩;refine X2 (.slice _ _ _) O hF sizeOf33 O O XU B0 ?_;intro w hF hE;have hV:=hV.store hE La;have hQ:=hQ.store hE La;refine⟨hF.sub (.cons _ (.cons _ (.cons_cons _ (.cons_cons _ (.cons _ (.cons_cons _ (.cons_cons _ (.cons_cons _ (List.nil_sublist _))))))))),?_⟩;refine Hb O (Rb Xb O) (X2 (.slice _ _ _) O hF nZ O O XU H8 ?_);intro w hF hE;have hV:=hV.store hE La;have hQ:=hQ.store hE La;refine⟨hF.sub (.cons _ (.cons _ (.cons_cons _ (.cons_cons _ (.cons _ (.cons_cons _ (.cons_cons _ (.cons_cons _ (List.nil_sublist _))))))))),?_⟩
     refine d_nil (Wa (Wa ?_));exact Qb ⟨((ac.1++[ks[j]],ac.2++[(Af L pick xs[j]).val])),(A4),(c4),(k_4),(A5),(c5),(i_5),(vals++q.v.cells),(by rw[Zf xs ks j hjx,hac,Z3 hqh (by assumption),show ks.getD j []=ks[j] by simp[List.getD,hjk]]),(hjx),(hS4_k),(hS5_i),(by rw[jQ];exact (hV.append (RX.one (Ze hQ.rep).2.2.2.2)).sub (by intro x hx;simp only[ids,jQ,List.map_cons,List.map_nil,qQ,mQ,oQ]at hx ⊢;grind)),PE,hF.drop 4⟩
    refine Of 1 O hF (Fb (cs:=(q.v.cells).toArray) jX oZ sX Oa Oa Ib) ?_;intro b12 w hb12 hF hE;have hV:=hV.alloc hE hb12;have hQ:=hQ.alloc hE hb12;refine⟨hF.mid 1 6,?_⟩;refine Of 1 O hF (Fb (cs:=#[I (ks[j])]) iX sZ vX Oa Oa Ib) ?_;intro b13 w hb13 hF hE;have hV:=hV.alloc hE hb13;have hQ:=hQ.alloc hE hb13;refine⟨hF.mid 2 6,?_⟩;refine On [_,_,_,_,_,_,_,_] [sk,si] 0 (news:=[I (ks[j])]) (len':=(ac.1++[ks[j]]).length) (ys:=((ac.1++[ks[j]]).map λs=>Value.string (bs s))) O PF hF hK O O (O) (λ_=>⟨_,O,Tc (hF.cellsAll 0 O)⟩) (by simp[Value.oneCell']) (by simp only[maxLen];omega) La La Aa ?_;intro A6 c6 k_6 w hS6_k hF hE hnew;have hsub:∀x∈(sk).map (·.1),x∈ids sk:=λ_ h=>h;have hV:=hV.grow hE hnew (λx hx=>by have:=hsub x hx;simp[this]);have hQ:=hQ.grow hE hnew (λx hx=>by have:=hsub x hx;simp[this]);clear hsub;refine⟨hF.mid 2 6,?_⟩;refine Hb O (Rb Oe O) ?_;refine On [_,_,_,_,_,_,_,_] [k_6,si] 1 (news:=[J (q.v.k),I (q.v.t),.slice q.v.A q.v.n q.v.c,.slice q.v.B q.v.m q.v.e]) (len':=(ac.2++[(Af L pick xs[j]).val]).length) (ys:=vals++q.v.cells) O Dt hF hI2 O O (O) (λ_=>⟨_,O,Tc (hF.cellsAll 1 O)⟩) (by simp[Value.oneCell']) (by simp only[maxLen];omega) La (O) Aa ?_;intro A7 c7 i_7 w hS7_i hF hE hnew;have hsub:∀x∈(si).map (·.1),x∈ids si:=λ_ h=>h;have hV:=hV.grow hE hnew (λx hx=>by have:=hsub x hx;simp[this]);have hQ:=hQ.grow hE hnew (λx hx=>by have:=hsub x hx;simp[this]);clear hsub;refine⟨hF.mid 2 6,?_⟩;refine X2 (.slice _ _ _) O hF sizeOf33 O O XU B0 ?_;intro w hF hE;have hV:=hV.store hE La;have hQ:=hQ.store hE La;refine⟨hF.sub (.cons _ (.cons _ (.cons_cons _ (.cons_cons _ (.cons _ (.cons_cons _ (.cons_cons _ (.cons_cons _ (List.nil_sublist _))))))))),?_⟩;refine Hb O (Rb Xb O) (X2 (.slice _ _ _) O hF nZ O O XU H8 ?_)
    intro w hF hE;have hV:=hV.store hE La;have hQ:=hQ.store hE La;refine⟨hF.sub (.cons _ (.cons _ (.cons_cons _ (.cons_cons _ (.cons _ (.cons_cons _ (.cons_cons _ (.cons_cons _ (List.nil_sublist _))))))))),?_⟩;refine d_nil (Wa (Wa ?_));exact Qb ⟨((ac.1++[ks[j]],ac.2++[(Af L pick xs[j]).val])),(A6),(c6),(k_6),(A7),(c7),(i_7),(vals++q.v.cells),(by rw[Zf xs ks j hjx,hac,Z3 hqh (by assumption),show ks.getD j []=ks[j] by simp[List.getD,hjk]]),(hjx),(hS6_k),(hS7_i),(by rw[jQ];exact (hV.append (RX.one (Ze hQ.rep).2.2.2.2)).sub (by intro x hx;simp only[ids,jQ,List.map_cons,List.map_nil,qQ,mQ,oQ]at hx ⊢;grind)),PE,hF.drop 4⟩
   refine Da (Ba (Cb O) (Ba (V2 O O) (Ba (Sc O) ?_)));refine Wb (d:=85) O (λhg8=>?_) (λhg8=>?_)
   ·
    obtain⟨i1,hi1,hh1⟩:=hkid Aa;obtain⟨ad1,cq1,hAd1,hcq1,hcf1⟩:=hL.cf_elem hi1;have hcl1:=hcf1.k;rw[hh1];refine Ba (Rb Pu O) (Yb (Ff isAgg62 O hF.F 5 O O) (Ba (Cb O) (Ia (v:=.pointer (some (ad1.add (i1*17)))) (Ra (i:=(i1:Int)) Bz O hAd1 O Aa Aa) (Ia (v:=.pointer (some ((ad1.add (i1*17)).add 1))) (Gd (a:=ad1.add (i1*17)) Rm O) (Ia (v:=J (cq1.k)) (Yc xQ O (hF.cell0 (hcq1 1 Bb))) (Ba (Xh O O) (Ba (Fc O O) (Ba (Kb O) (Ca ?_)))))))));refine Lb O O (λhc4=>?_) (λhc4=>?_)
    ·
     have hqm:=(Fi hQv).2.2.2.1;obtain⟨eG,hrG,hGl_,hGc⟩:=((Fi hQv).2.2.2.2.2).slice_open (λd hd=>by rw[Ge]at hd;obtain⟨u,_,rfl⟩:=nQ.1 hd;exact Xc u);have hRG:RX w0 _ _ _ _:=hrG;have h5:0<=Qi xs[j]/\(L.getD (Qi xs[j]).toNat noC).cls=5:=by rw[hzk,hh1];exact⟨by omega,by rw[PD hi1];omega⟩
     have hil:=(TE hLs pick k [] xs[j]).1;rw[ZE hqh (by assumption) h5]at hil;simp only at hil;refine Ja (Ba (Rb Xb O) (Yb (Ff zQ O hF.F 2 O O) (Ba (Rb Ih O) (Ba (Rb Xb O) (Yb (Ff zQ O hF.F 0 O O) ?_)))));refine LD [_,_,_,_,_,_] [sk,si] 1 (news:=eG) (len':=(ac.2++(Af L pick xs[j]).val.items).length) (ys:=vals++eG) Dt hF hI2 rfl rfl (hGl_) (λhk=>by obtain⟨ad,hA,hc⟩:=hGc hk;exact⟨ad,hA,Tc hc⟩) (Yp hrG.one_) (by simp only[maxLen];omega) (by rw[dQ,<-hqm]) (rfl) Aa ?_;intro A9 c9 i_9 w hS9_i hF hE hnew;have hsub:∀x∈(si).map (·.1),x∈ids si:=λ_ h=>h;have hV:=hV.grow hE hnew (λx hx=>by have:=hsub x hx;simp[this]);have hQ:=hQ.grow hE hnew (λx hx=>by have:=hsub x hx;simp[this]);have hRG:=hRG.grow hE hnew (λx hx=>by have:=hsub x hx;simp[this]);clear hsub;refine Ba (Rb Xb O) (Zl (.slice _ _ _) hF nZ O O B0 H8 ?_);intro w hF hE;have hV:=hV.store hE La;have hQ:=hQ.store hE La;have hRG:=hRG.store hE La;refine Eb (Wa (Wa ?_));exact Qb ⟨((ac.1,ac.2++(Af L pick xs[j]).val.items)),(A1),(c1),(sk),(A9),(c9),(i_9),(vals++eG),(by rw[Zf xs ks j hjx,hac,ZE hqh (by assumption) h5,qQ]),(hjx),(hK),(hS9_i),(by rw[jQ,<-Ge (Af L pick xs[j]).val.items];exact (hV.append hRG).sub (by intro x hx;simp only[ids,jQ,List.map_cons,List.map_nil,qQ,mQ,oQ]at hx ⊢;grind)),PE,hF.drop 2⟩
    have h5n:¬(0<=Qi xs[j]/\(L.getD (Qi xs[j]).toNat noC).cls=5):=by
      rintro⟨ha,hb⟩
      first
      | (rw[hzk]at ha;omega)
      | (rw[hzk,hh1,PD hi1]at hb;omega)
    refine Ja (Ba (Rb Xb O) (Yb (Ff zQ O hF.F 2 O O) (Ba (Rb Ih O) (Ia (v:=.agg (q.v.cells).toArray) (Za (l:=q.v.cells) aZ oZ O O (hF.part 0 1 O O)) ?_))));refine Ck 1 hF (Fb (cs:=(q.v.cells).toArray) jX oZ sX Oa Oa Ib) ?_;intro b14 w hb14 hF hE;have hV:=hV.alloc hE hb14;have hQ:=hQ.alloc hE hb14;refine LD [_,_,_,_,_,_,_] [sk,si] 1 (news:=[J (q.v.k),I (q.v.t),.slice q.v.A q.v.n q.v.c,.slice q.v.B q.v.m q.v.e]) (len':=(ac.2++[(Af L pick xs[j]).val]).length) (ys:=vals++q.v.cells) Dt hF hI2 O O (O) (λ_=>⟨_,O,Tc (hF.cellsAll 0 O)⟩) (by simp[Value.oneCell']) (by simp only[maxLen];omega) La (O) Aa ?_;intro A10 c10 i_10 w hS10_i hF hE hnew;have hsub:∀x∈(si).map (·.1),x∈ids si:=λ_ h=>h;have hV:=hV.grow hE hnew (λx hx=>by have:=hsub x hx;simp[this]);have hQ:=hQ.grow hE hnew (λx hx=>by have:=hsub x hx;simp[this]);clear hsub;refine Ba (Rb Xb O) (Zl (.slice _ _ _) hF nZ O O H8 H8 ?_);intro w hF hE;have hV:=hV.store hE La;have hQ:=hQ.store hE La;refine Eb (Wa (Wa ?_));exact Qb ⟨((ac.1,ac.2++[(Af L pick xs[j]).val])),(A1),(c1),(sk),(A10),(c10),(i_10),(vals++q.v.cells),(by rw[Zf xs ks j hjx,hac,AG hqh (by assumption) h5n,qQ]),(hjx),(hK),(hS10_i),(by rw[jQ];exact (hV.append (RX.one (Ze hQ.rep).2.2.2.2)).sub (by intro x hx;simp only[ids,jQ,List.map_cons,List.map_nil,qQ,mQ,oQ]at hx ⊢;grind)),PE,hF.drop 3⟩
   refine Ha (Ha (Ha (Ha (Ha (Ha (Ha (Ba (Pc O O) (Ba (Kb O) (Ca (Te O ?_))))))))));have h5n:¬(0<=Qi xs[j]/\(L.getD (Qi xs[j]).toNat noC).cls=5):=by
     rintro⟨ha,hb⟩
     first
     | (rw[hzk]at ha;omega)
     | (rw[hzk,hh1,PD hi1]at hb;omega)
   refine Ja (Ba (Rb Xb O) (Yb (Ff zQ O hF.F 2 O O) (Ba (Rb Ih O) (Ia (v:=.agg (q.v.cells).toArray) (Za (l:=q.v.cells) aZ oZ O O (hF.part 0 1 O O)) ?_))));refine Ck 1 hF (Fb (cs:=(q.v.cells).toArray) jX oZ sX Oa Oa Ib) ?_;intro b15 w hb15 hF hE;have hV:=hV.alloc hE hb15;have hQ:=hQ.alloc hE hb15;refine LD [_,_,_,_,_,_,_] [sk,si] 1 (news:=[J (q.v.k),I (q.v.t),.slice q.v.A q.v.n q.v.c,.slice q.v.B q.v.m q.v.e]) (len':=(ac.2++[(Af L pick xs[j]).val]).length) (ys:=vals++q.v.cells) Dt hF hI2 O O (O) (λ_=>⟨_,O,Tc (hF.cellsAll 0 O)⟩) (by simp[Value.oneCell']) (by simp only[maxLen];omega) La (O) Aa ?_;intro A11 c11 i_11 w hS11_i hF hE hnew;have hsub:∀x∈(si).map (·.1),x∈ids si:=λ_ h=>h;have hV:=hV.grow hE hnew (λx hx=>by have:=hsub x hx;simp[this]);have hQ:=hQ.grow hE hnew (λx hx=>by have:=hsub x hx;simp[this]);clear hsub;refine Ba (Rb Xb O) (Zl (.slice _ _ _) hF nZ O O H8 H8 ?_);intro w hF hE;have hV:=hV.store hE La;have hQ:=hQ.store hE La;refine Eb (Wa (Wa ?_));exact Qb ⟨((ac.1,ac.2++[(Af L pick xs[j]).val])),(A1),(c1),(sk),(A11),(c11),(i_11),(vals++q.v.cells),(by rw[Zf xs ks j hjx,hac,AG hqh (by assumption) h5n,qQ]),(hjx),(hK),(hS11_i),(by rw[jQ];exact (hV.append (RX.one (Ze hQ.rep).2.2.2.2)).sub (by intro x hx;simp only[ids,jQ,List.map_cons,List.map_nil,qQ,mQ,oQ]at hx ⊢;grind)),PE,hF.drop 3⟩
  rintro σ w ⟨ac3,A3,c3,sk3,A4,c4,si3,vals3,hac3,hjx,hK3,hI3,hV3,hs,hF⟩;refine Eg.slots hs ?_;clear hs;intro σ;refine Ga (Ja (Ba (Un (((j+1:Nat):Int)) O O) (Ba (Cb O) (Eb ?_))));refine Qb ⟨_,?_,j+1,ac3,A3,c3,sk3,A4,c4,si3,vals3,O,Aa,(hac3),(hK3),(hI3),(hV3),PE,hF⟩;omega
 refine Ic (Ec O ?_);refine Ga (Da (Yb (Ig aZ oZ O hF.F 0 O O) ?_));refine Ta (has_c ⟨k,t,A1,ac.1.length,c1,A2,ac.2.length,c2⟩ _) (Ma en_161 O O) ?_;rintro _ w ⟨rfl,hE⟩;have hF:=hF.ext hE;have hV:=hV.ext hE;refine Ke hF pZ O O Tr ?_;intro w hF hE;have hV:=hV.store hE La;refine Ca (Xa (Va (Ka (Ni O (l:=[.bool true,J k,I t,.slice A1 ac.1.length c1,.slice A2 ac.2.length c2]) O bZ pZ O (hF.cellsAll 1 O)) ?_)));obtain rfl:j=xs.length:=by omega
 have e0:Af L pick (.node k t ks xs)=⟨true,.node k t ac.1 ac.2⟩:=by rw[Af,if_neg (by rw[Wv];exact hc0),<-hac,List.take_length]
 rw[e0];have hkl:∀s∈ac.1,s.length<=9223372036854775807:=λs hs=>by rw[<-hac]at hs;rcases Bv _ (gQ _) s hs with h|h;(have:=hkm s h;omega);(rw[h];simp)
 refine⟨⟨true,k,t,A1,ac.1.length,c1,A2,ac.2.length,c2⟩,O,S5 (s:=⟨true,.node k t ac.1 ac.2⟩) (x:=⟨k,t,A1,ac.1.length,c1,A2,ac.2.length,c2⟩) (Rep.tree_mk ⟨by omega,by omega⟩ Aa ?_ ?_),hF.same⟩
 ·exact hK.rep (pre:=[_,_,_,_]) hF (RX.strs (ids:=([b6,b3,b2,b1]++(ids sk++ids si))) hkl) La
 rw[Ge];exact hI2.rep (pre:=[_,_,_,_]++sk) (post:=[]) (by simpa using hF) hV La
theorem MY(L:List Cf)(pick:List Int)(hlp:L.length=pick.length)(hLs:∀c∈L,CfS c)(x:Tree):FillC L pick x:=Tree.ind (qQq L pick hlp hLs) x
theorem kid_size{L:List Cf}(hL:∀c∈L,CfS c)(pick:List Int)(k:Int)(key:Str)(x:Tree):Nb (Vr L k key (Qi x) (Af L pick x)).2<=Db (Af L pick x).val:=by
  unfold Vr;split
  ·split
   ·simp[Nb]
   split
   ·have:=Bm (Af L pick x).val;show Nb (Af L pick x).val.items<=_;omega
   simp[Nb]
  simp[Nb]
theorem kid_max{L:List Cf}(pick:List Int)(k:Int)(key:Str)(x:Tree){M:Nat}(h:Ad (Af L pick x).val<=M):∀y∈(Vr L k key (Qi x) (Af L pick x)).2,Ad y<=M:=by
  unfold Vr;split
  ·split
   ·intro y hy;rw[pQ.1 hy];exact h
   split
   ·exact Lo h
   intro y hy;rw[pQ.1 hy];exact h
  intro y hy;cases hy
theorem MV{L:List Cf}(hL:∀c∈L,CfS c)(pick:List Int)(x:Tree):Ad x<=16777216->Db (Af L pick x).val<=257*Db x/\Ad (Af L pick x).val<=16777216 :=
  Tree.ind (Q:=λx=>Ad x<=16777216->Db (Af L pick x).val<=257*Db x/\Ad (Af L pick x).val<=16777216) (λk t ks xs ih hm=>by
    by_cases h0:0<=Qi (.node k t ks xs)
    ·rw[F3 h0]
     have:=Y7 hL pick (Qi (.node k t ks xs));have:=H0 (.node k t ks xs);exact⟨by omega,by omega⟩
    rw[Af, if_neg h0];have key:∀j,j<=xs.length->Nb (Yh L pick k ks (xs.take j)).2<=257*Nb (xs.take j)/\∀y∈(Yh L pick k ks (xs.take j)).2,Ad y<=16777216:=by
      intro j
      induction j with
      | zero=>intro _;simp[Yh,Nb]
      | succ j ihj =>
        intro hj;obtain⟨h1,h2⟩:=ihj Aa;have hx:xs[j]' Aa∈xs:=eQ _;obtain⟨h3,h4⟩:=ih _ hx (Lo (x:=.node k t ks xs) hm _ hx);rw[Zf xs ks j Aa];have h5:=kid_size hL pick k (ks.getD j []) (xs[j]' Aa);have h6:Nb (xs.take (j+1))=Nb (xs.take j)+Db (xs[j]' Aa):=by rw[iQ Aa,Pk];simp[Nb]
        refine⟨by rw[Pk,h6];omega,λy hy=>?_⟩;rcases mQ.1 hy with hy|hy
        ·exact h2 y hy
        exact kid_max pick k _ _ h4 y hy
    obtain⟨h1,h2⟩:=key xs.length (gQ _);rw[List.take_length]at h1 h2;refine⟨by rw[Db,Db];omega,?_⟩;have h7:=Pp h2;have h8:Di (Yh L pick k ks xs).1<=16777216:=St λs hs=>by
      have hs':=hs;rw[<-List.take_length (l:=xs)]at hs';rcases Bv xs.length (gQ _) s hs' with h|h
      ·exact EH (x:=.node k t ks xs) hm s h
      rw[h];simp
    have h9:=F7 (x:=.node k t ks xs) hm;simp only[Tree.text]at h9;rw[Ad];omega) x
theorem E7{v:Tree}{L:List Cf}{pick:List Int}(h:¬(Ag v=true/\Qr v L pick=true)):Xj v L pick=(zeroT,1):=if_neg h
theorem Gu{v:Tree}{L:List Cf}{pick:List Int}(h:Ag v=true/\Qr v L pick=true):Xj v L pick=if (Af L pick v).has=true then (if Ye (Af L pick v).val=true then ((Af L pick v).val,0) else (zeroT,1)) else (zeroT,8):=if_pos h
theorem TR{v:Tree}(h:Ag v=true):Zd nodeB v=true:=(Bool.and_eq_true_iff.1 h).2
theorem NZ{v:Tree}{L:List Cf}{pick:List Int}(h:Qr v L pick=true):L.length=pick.length:=by
  unfold Qr at h;rw[Bool.and_eq_true,decide_eq_true_eq]at h;exact h.1
theorem DF(L:List Cf)(pick:List Int)(LA PA:Option Addr)(lc pc:Nat)(SL SP:Nat->Prop)(t:Tree)(x:Tv)(SX:Nat->Prop)(w0:World)(hL:Rep SL w0 (.slice (L.map VJ)) [.slice LA L.length lc])(hP:Rep SP w0 (.slice (pick.map Ai)) [.slice PA pick.length pc])(hLs:∀c∈L,CfS c)(hX:Rep SX w0 (Jb t) x.cells)(hol:HolIn L.length t)(hsz:Db t<=512)(hmx:Ad t<=16777216)(hG:Gl w0):Calls prog 67 #[.agg (x.cells).toArray,.slice LA L.length lc,.slice PA pick.length pc] w0 (Oc λv w'=>∃q:Tv,v=.tuple #[.agg q.cells.toArray,J (Xj t L pick).2]/\Rep (Btw w0 w') w' (Jb (Xj t L pick).1) q.cells/\Same [] w0 w'):=by
 refine Ea func67 O ntmps67 Bb (Li _ _ _) ?_;have hF:=FR.start w0 [];refine Da (Df hF O ?_);rintro b1 w hb1 hF -;refine Gc (cs:=#[J 0,I [],aQ,aQ]) hF sX O ?_;rintro b2 w hb2 hF -;refine Ba (Gb O) (Ob (Ba (Qe O) (Ba (Qe O) ?_)));refine Ia (w':=w) (v:=.agg #[.slice LA L.length lc,.slice PA pick.length pc]) Ib (Hf hF zeroValue118 sizeOf118 O ?_);rintro b3 w hb3 hF -;refine Ca (Fa (Da (Yb (Ig aZ oZ O hF.F 2 O O) ?_)));refine Qa hF (I7 t Aa _ _ x.cells (hF.rep hX) (Rk _ Aa) (hG.ext hF.same)) (Ma GI O O) ?_;intro w hF;refine Ba (Wi O) (Ba (Sc O) ?_);refine Je (d:=16) O (λhg0=>?_) (λhg0=>?_)
 ·
  refine Ha (Ha (Ha (Ha (Ba (Fc O O) (Ca (Od O (Da ?_)))))));refine Ia (w':=w) (v:=.agg #[J 0,I [],aQ,aQ]) Ib (Ke hF oZ O O Tr ?_);rintro w hF -;refine Ba (Gb O) (Ca ?_);refine Xa (Va (Ka (Ae O (l:=[J 0,I [],aQ,aQ]) O aZ oZ O (hF.cellsAll 1 O) (v:=J 1) O) ?_));rw[E7 (by simp_all)];exact⟨O_,O,Jn _ _,hF.same⟩
 refine Yb (Ig isAgg118 sizeOf118 O hF.F 0 O O) (Yb (Ig aZ oZ O hF.F 2 O O) ?_);refine Qa hF (goodC_c L pick LA PA lc pc _ _ t x _ _ (hF.rep hL) (hF.rep hP) (λc hc=>(hLs c hc).ok) (hF.rep hX) Aa (hG.ext hF.same)) (Ua en_101 O O O) ?_;intro w hF;refine Ba (Wi O) (Ba (Pc O O) (Ca ?_));refine He O O (λhc0=>?_) (λhc0=>?_)
 ·
  refine Da (Ia (w':=w) (v:=.agg #[J 0,I [],aQ,aQ]) Ib ?_);refine Ke hF oZ O O Tr ?_;rintro w hF -;refine Ba (Gb O) (Ca ?_);refine Xa (Va (Ka (Ae O (l:=[J 0,I [],aQ,aQ]) O aZ oZ O (hF.cellsAll 1 O) (v:=J 1) O) ?_));rw[E7 (by simp_all)];exact⟨O_,O,Jn _ _,hF.same⟩
 refine Na (Ga (Da (Yb (Ig isAgg118 sizeOf118 O hF.F 0 O O) (Yb (Ig aZ oZ O hF.F 2 O O) ?_))));have hgo:Ag t=true/\Qr t L pick=true:=by simp_all
 refine Ta (MY L pick (NZ hgo.2) hLs t LA PA lc pc _ _ _ _ x.cells (hF.rep hL) (hF.rep hP) (hF.rep hX) ⟨hol,TR hgo.1,hsz,hmx⟩ (hG.ext hF.same)) (Ua KW O O O) ?_;rintro _ w ⟨y,rfl,hRt,hE⟩;have hY:=RX.made (ids:=[b3,b2,b1]) hF.same.size (λx hx=>hF.lt_ids (by simpa using hx)) hRt;have hyp:=Ze hRt;have hF:=hF.ext hE;clear hE hRt;have hfb:=MV hLs pick t hmx;refine Hf hF tX pZ O ?_;intro b4 w hb4 hF hE;have hY:=hY.alloc hE hb4;refine Ca (Fa (Sa (Da (Ba (Rb Sk O) (Yb (OE cZ O hF.F 0 O O) (Ba (Wi O) (Ba (Kb O) (Ca ?_))))))));refine He O O (λhc1=>?_) (λhc1=>?_)
 ·
  refine Da (Ia (w':=w) (v:=.agg #[J 0,I [],aQ,aQ]) Ib ?_);refine Ke hF oZ O O B0 ?_;intro w hF hE;have hY:=hY.store hE (by grind);refine Ba (Gb O) (Ca ?_);refine Xa (Va (Ka (Ae O (l:=[J 0,I [],aQ,aQ]) O aZ oZ O (hF.cellsAll 2 O) (v:=J 8) O) ?_));rw[show Xj t L pick=(zeroT,8) by rw[Gu hgo,if_neg (by rw[<-hyp.1];simp_all)]];exact⟨O_,O,Jn _ _,hF.same⟩
 refine Da (Ba (Rb Ih O) (Ia (v:=.agg (y.v.cells).toArray) (Za (l:=y.v.cells) aZ oZ O O (hF.part 0 1 O O)) ?_));refine Ta (N3 (Af L pick t).val Aa _ _ y.v.cells (Ze hY.rep).2.2.2.2 (Rk _ Aa) (hG.ext hF.same)) (Ma BQ O O) ?_;rintro _ w ⟨rfl,hE⟩;have hF:=hF.ext hE;have hY:=hY.ext hE;refine Ba (Wi O) (Ba (Kb O) (Ca ?_));refine He O O (λhc2=>?_) (λhc2=>?_)
 ·
  refine Da (Ia (w':=w) (v:=.agg #[J 0,I [],aQ,aQ]) Ib ?_);refine Ke hF oZ O O B0 ?_;intro w hF hE;have hY:=hY.store hE (by grind);refine Ba (Gb O) (Ca ?_);refine Xa (Va (Ka (Ae O (l:=[J 0,I [],aQ,aQ]) O aZ oZ O (hF.cellsAll 2 O) (v:=J 1) O) ?_));rw[show Xj t L pick=(zeroT,1) by rw[Gu hgo,if_pos (by rw[<-hyp.1];simp_all),if_neg (by simp_all)]];exact⟨O_,O,Jn _ _,hF.same⟩
 refine Na (Wa (Ga (Da (Ba (Rb Ih O) (Ia (v:=.agg (y.v.cells).toArray) (Za (l:=y.v.cells) aZ oZ O O (hF.part 0 1 O O)) ?_)))));refine Ke hF oZ O O B0 ?_;intro w hF hE;have hY:=hY.store hE (by grind);refine Ba (Gb O) (Ca ?_);refine Xa (Va (Ka (Ae O (l:=y.v.cells) O aZ oZ O (hF.cellsAll 2 O) (v:=J 0) O) ?_));rw[show Xj t L pick=((Af L pick t).val,0) by rw[Gu hgo,if_pos (by rw[<-hyp.1];simp_all),if_pos (by simp_all)]];have hYd:=hY.done;exact⟨y.v,O,(Ze hYd).2.2.2.2,hF.same⟩
end Go.Scarf
