/- A part of the proof. -/
import Derived.Test.YtidlkjpohhbbcaaGreatDoorM13
set_option linter.all false
set_option maxHeartbeats 8000000
set_option maxRecDepth 10000
namespace Go.Scarf
open Go.RowKit Go.Proofs Go.Proofs.Tryz
theorem Fh{L:List Cf}{pick:List Int}{k:Int}:∀(xs:List Tree)(ks:List Str)(j:Nat)(hj:j<xs.length),
    Hj L pick k ks (xs.take (j+1))=((Hj L pick k ks (xs.take j)).1++(Xt L k (ks.getD j []) (Tj xs[j]) (Rf L pick xs[j])).1,(Hj L pick k ks (xs.take j)).2++(Xt L k (ks.getD j []) (Tj xs[j]) (Rf L pick xs[j])).2)
  | [],_,_,hj=>absurd hj Oa
  | x :: xs, ks, 0, _ => by
    simp only[List.take_succ_cons,List.take_zero,Hj,List.nil_append,qQ,List.getElem_cons_zero];cases ks <;> rfl
  | x :: xs, ks, j + 1, hj => by
    have ih:=Fh (L:=L) (pick:=pick) (k:=k) xs ks.tail j (by simpa using hj);rw[List.take_succ_cons,Hj,ih,List.take_succ_cons,Hj];have e:ks.tail.getD j []=ks.getD (j+1) []:=by cases ks <;> simp
    simp only[e,List.getElem_cons_succ,sQ]
structure CfS (c:Cf):Prop where
  rig:CfR c
  b:Nb c.b.val<=256/\Kd c.b.val<=16777216
  l:Nb c.l.val<=256/\Kd c.l.val<=16777216
  r:Nb c.r.val<=256/\Kd c.r.val<=16777216
theorem CfS.ok{c:Cf}(h:CfS c):CfOk c:=⟨⟨by have:=h.b;omega,Mn _ (by have:=h.b;omega)⟩,⟨by have:=h.l;omega,Mn _ (by have:=h.l;omega)⟩,⟨by have:=h.r;omega,Mn _ (by have:=h.r;omega)⟩⟩
theorem U9{s:Sd}(h:SdR s):Bl s=s:=by
  rcases h with rfl|⟨h1,h2⟩
  ·rfl
  unfold Bl;rw[if_pos h1,VQ h2,<-h1]
theorem MQ{c:Cf}(h:CfS c)(pk:Int):Nb (Lk c pk).1.val<=256/\Kd (Lk c pk).1.val<=16777216:=by
  obtain⟨r1,r2,r3,-⟩:=h.rig;unfold Lk;split
  ·rw[U9 r1];exact h.b
  split
  ·rw[U9 r2];exact h.l
  split
  ·rw[U9 r3];exact h.r
  simp[noS,zeroT,Nb,Ec,Kd,Mk,Rk]
theorem X6{L:List Cf}(h:∀c∈L,CfS c)(pick:List Int)(i:Int):Nb (Ku L pick i).val<=256/\Kd (Ku L pick i).val<=16777216:=by
  unfold Ku;by_cases hi:i.toNat<L.length
  ·have e : L.getD i.toNat noC = L[i.toNat] := by simp[List.getD, hi]
   rw[e];exact MQ (h _ (eQ _)) _
  have e : L.getD i.toNat noC = noC := by simp[List.getD, Nat.not_lt.1 hi]
  rw[e];unfold Lk;have z:Bl noC.b=noS/\Bl noC.l=noS/\Bl noC.r=noS:=⟨rfl,rfl,rfl⟩;rw[z.1,z.2.1,z.2.2];split <;> (try split) <;> (try split) <;> simp[noS,zeroT,Nb,Ec,Kd,Mk,Rk]
theorem Y5{L:List Cf}{pick:List Int}{x:Tree}(h:0<=Tj x):Rf L pick x=Ku L pick (Tj x):=by cases x;rw[Rf,if_pos h]
theorem BK{L:List Cf}(hL:∀c∈L,CfS c)(pick:List Int)(k:Int)(key:Str)(x:Tree):(Xt L k key (Tj x) (Rf L pick x)).2.length<=256/\(Xt L k key (Tj x) (Rf L pick x)).1.length<=1:=by
  unfold Xt;split
  ·split
   ·simp
   split
   ·rename_i h5
    rw[Y5 h5.1];have h1:=(X6 hL pick (Tj x)).1;have h2:=Mt (Ku L pick (Tj x)).val;have h3:=Yj (Ku L pick (Tj x)).val.items;refine⟨?_,by simp⟩;show (Ku L pick (Tj x)).val.items.length<=256;omega
   simp
  simp
theorem S9{L:List Cf}(hL:∀c∈L,CfS c)(pick:List Int)(k:Int)(ks:List Str)(xs:List Tree):∀j,j<=xs.length->(Hj L pick k ks (xs.take j)).2.length<=256*j/\(Hj L pick k ks (xs.take j)).1.length<=j
  | 0,_=>by simp[Hj]
  | j + 1, hj => by
    have ih:=S9 hL pick k ks xs j Aa;have h1:=BK hL pick k (ks.getD j []) (xs[j]' Aa);rw[Fh xs ks j Aa];simp only[dQ];omega
theorem Lv{L:List Cf}{pick:List Int}{k:Int}{ks:List Str}{xs:List Tree}:∀j,j<=xs.length->∀s∈(Hj L pick k ks (xs.take j)).1,s∈ks\/s=[]
  | 0,_=>λs hs=>by simp[Hj]at hs
  | j + 1, hj => λs hs => by
    rw[Fh xs ks j Aa]at hs;rcases mQ.1 hs with hs|hs
    ·exact Lv j Aa s hs
    have:s=ks.getD j []:=by
      unfold Xt at hs;split at hs
      ·split at hs
       ·simpa using hs
       split at hs <;> simp at hs
      simp at hs
    rw[this];by_cases hjk:j<ks.length
    ·left;simp[List.getD,hjk]
    right;simp[List.getD,Nat.not_lt.1 hjk]
def HolIn(n:Nat)(x:Tree):Prop:=∀t∈Hh x,∃i,i<n/\i<1000/\t=Hq i
theorem ZS{n:Nat}{k:Int}{t:Str}{ks:List Str}{xs:List Tree}(h:HolIn n (.node k t ks xs))(h0:0<=Hs k t):∃i,i<n/\Hs k t=(i:Int):=by
  by_cases hk:k=7
  ·obtain⟨i, hi, hi2, e⟩ := h t (by rw[Hh, if_pos hk];simp)
   refine⟨i,hi,?_⟩;have:=RN hi2;rw[e,hk];exact this
  have : Hs k t = -1 := if_pos hk;omega
theorem HolIn.kid{n:Nat}{k:Int}{t:Str}{ks:List Str}{xs:List Tree}(h:HolIn n (.node k t ks xs)){x:Tree}(hx:x∈xs):HolIn n x:=λs hs=>h s (by
  rw[Hh,Yo];exact List.mem_append_right _ (List.mem_flatMap.2 ⟨x,hx,hs⟩))
structure OpT (n:Nat) (x:Tree):Prop where
  hol:HolIn n x
  nod:Me nodeB x=true
  sz:Nb x<=512
  mx:Kd x<=16777216
theorem OpT.kid{n:Nat}{k:Int}{t:Str}{ks:List Str}{xs:List Tree}(h:OpT n (.node k t ks xs)){x:Tree}(hx:x∈xs):OpT n x :=
  ⟨h.hol.kid hx,(Bh h.nod).2 x hx,by have:=h.sz;have:=Lg hx;rw[Nb]at *;omega,by have:=h.mx;have:=Oj hx;rw[Kd]at *;omega⟩
theorem DD{L:List Cf}{i:Nat}(h:i<L.length):L.getD ((i:Nat):Int).toNat noC=L[i]:=by simp[List.getD,h]
theorem kidF_no{L:List Cf}{k:Int}{key:Str}{h:Int}{s:Sd}(hs:s.has=false):Xt L k key h s=([],[]):=by unfold Xt;rw[if_neg (by rw[hs];decide)]
theorem F_{L:List Cf}{k:Int}{key:Str}{h:Int}{s:Sd}(hs:s.has=true)(hk:k=6):Xt L k key h s=([key],[s.val]):=by unfold Xt;rw[if_pos hs,if_pos hk]
theorem TG{L:List Cf}{k:Int}{key:Str}{h:Int}{s:Sd}(hs:s.has=true)(hk:¬k=6)(h5:0<=h/\(L.getD h.toNat noC).cls=5):Xt L k key h s=([],s.val.items):=by unfold Xt;rw[if_pos hs,if_neg hk,if_pos h5]
theorem DK{L:List Cf}{k:Int}{key:Str}{h:Int}{s:Sd}(hs:s.has=true)(hk:¬k=6)(h5:¬(0<=h/\(L.getD h.toNat noC).cls=5)):Xt L k key h s=([],[s.val]):=by unfold Xt;rw[if_pos hs,if_neg hk,if_neg h5]
def FillC(L:List Cf)(pick:List Int)(x:Tree):Prop:=∀(LA PA:Option Addr)(lc pc:Nat)(SL SP S:Nat->Prop)(w0:World)(cs:List Value),Rep SL w0 (.slice (L.map HA)) [.slice LA L.length lc]->Rep SP w0 (.slice (pick.map Gj)) [.slice PA pick.length pc]->Rep S w0 (Ob x) cs->OpT L.length x->Gl w0 ->
  Calls prog 102 #[.agg #[.slice LA L.length lc,.slice PA pick.length pc],.agg cs.toArray] w0 (Yc λv w'=>∃y:Sv,v=.agg y.cells.toArray/\Rep (Btw w0 w') w' (Le (Rf L pick x)) y.cells/\Same [] w0 w')
theorem O9{M:Nat}{x:Tree}(h:Kd x<=M):x.text.length<=M:=by
  cases x with
  | node k t ks xs=>rw[Kd]at h;show t.length<=M;omega
theorem IZ{k:Int}{t:Str}{ks:List Str}{xs:List Tree}(h:Me nodeB (.node k t ks xs)=true)(hk:k=6):ks.length=xs.length:=by
  have h1:=(Bh h).1;subst hk;unfold nodeB at h1;simp at h1;have h2:=h1.1;unfold Om at h2;simp at h2;omega
theorem GW(L:List Cf)(pick:List Int)(hlp:L.length=pick.length)(hLs:∀c∈L,CfS c)(k:Int)(t:Str)(ks:List Str)(xs:List Tree)(ih:∀x,x∈xs->FillC L pick x):FillC L pick (.node k t ks xs):=by
 intro LA PA lc pc SL SP S w0 cs hL hP hR hop hG;obtain⟨A,c,B,e,rfl,hk0,ht0,hKs,hX⟩:=hR.tree_inv;have hXl:=hX.slice_len;have hLl:=hL.slice_len;have hPl:=hP.slice_len;simp only[rQ]at hLl hPl;have hsz:=hop.sz;rw[Nb]at hsz;have hxn:=Yj xs;have htm:=O9 hop.mx;have htl:t.length<=140737488355328:=by simp only[Tree.text]at htm;omega
 have hkm:∀s∈ks,s.length<=16777216:=BL hop.mx;refine Fa func102 O ntmps102 Ab (Uc _ _) ?_;have hF:=FR.start w0 [];refine Ea (Ce hF O ?_);rintro b1 w hb1 hF -;refine Ce hF O ?_;rintro b2 w hb2 hF -;refine Pc (cs:=#[.bool false,J 0,I [],aQ,aQ]) hF pX O ?_;rintro b3 w hb3 hF -;refine Da (Ga (Ea (Xb (Bf aZ nZ O hF.F 1 O O) ?_)));refine Pa hF (LS ⟨k,t,A,ks.length,c,B,xs.length,e⟩ htl _ (hG.ext hF.same)) (Ma en_160 O O) ?_;intro w hF;refine Ba (Fb O) (Lb (Ba (Za O) (Ba (Vx O O) (Da ?_))));refine Jb O O (λhc0=>?_) (λhc0=>?_)
 ·
  have hc0i:=hc0;obtain⟨i0,hi0,hhx⟩:=ZS hop.hol hc0;have hi0p:i0<pick.length:=by omega
  obtain⟨ad0,cq0,hAd0,hcq0,hcf0⟩:=hL.cf_elem hi0;rw[hhx];refine Ga (De (zs:=.of []) (bQ [0,1,2,3,4,5,6,7,8,9] (.alt 10 (bQ [11,12,13] (.act 14 (.act 15 (.free 16 .nil)))) (.act 14 (.act 10 (bQ [11,12,13] (.act 15 (.free 16 .nil))))))) hF ?_);intro w hF;refine Ib O (Mb Nv O) (Ng O (Ie isAgg62 O C0 2 O O) (Ib O (Za O) (Sa O (v:=.pointer (some (ad0.add (i0*17)))) (λw hC=>Na (i:=(i0:Int)) Jz O hAd0 O Aa Aa) (Sa O (v:=.agg (cq0.cells).toArray) (λw hC=>Wa (l:=cq0.cells) fZ pZ O O (hC.cells0 hcq0)) (Ib O (Mb K8 O) (Ng O (Ie isAgg58 O C0 2 O O) (Ib O (Za O) ?_)))))));obtain⟨ad0,hA0,hk0,hx0⟩:=hP.int_elem (i:=i0) (hi0p);refine Sa O (v:=.pointer (some (ad0.add (i0*1)))) (λw hC=>Na (i:=(i0:Int)) SA O hA0 O Aa Aa) (Sa O (v:=J (pick[i0])) (λw hC=>Nc xQ O (hC.cell0 hk0)) ?_);refine Iv ?_ ?_
  ·
   refine Dd O (Vt L[i0] cq0 pick[i0] _ _ (hcf0.ext hF.same) (hLs _ (eQ _)).ok (hG.ext hF.same)) (Xa XE O O O) ?_;rintro _ w ⟨y,rfl,hRt,hE⟩;have hY:=RX.made (ids:=[b3,b2,b1]) hF.same.size (λx hx=>hF.lt_ids (by simpa using hx)) hRt;have hF:=hF.ext hE;clear hE hRt;refine⟨hF,?_⟩;refine Ib O (Mj O) (Ib O (Gt O O) (Ib O (Ym O O) ?_));refine Vp O (v:=λb=>V b) (o:=.cells #[.bool false,J 0,I [],aQ,aQ] 38) hF (Xh pX) ?_;intro b4 w hb4 hF hE;have hY:=hY.alloc hE hb4;refine⟨hF.drop 1,?_⟩;refine Gx O hF oZ O O Pi ?_;intro w hF hE;have hY:=hY.store hE (by grind);refine⟨hF.drop 1,?_⟩;refine Ib O (Kb O) (Ic (Ha (Ea (Xb (Bf cZ oZ O hF.F 0 O O) ?_))));refine Ge hF oZ O O Tr ?_;intro w hF hE;have hY:=hY.store hE (by grind);refine Da (Db (Cb (La (Mg O (l:=y.cells) O cZ oZ O (hF.cellsAll 1 O)) ?_)));have e0:Rf L pick (.node k t ks xs)=(Lk L[i0] pick[i0]).1:=by rw[Y5 (by rw[Rw];exact hc0i),Rw];show Ku L pick (Hs k t)=_;rw[hhx];unfold Ku;simp[List.getD,hi0,hi0p]
   rw[e0];exact⟨y,O,hY.done,hF.same⟩
  refine Vp O (v:=λb=>V b) (o:=.cells #[.bool false,J 0,I [],aQ,aQ] 38) hF (Xh pX) ?_;rintro b5 w hb5 hF -;refine⟨hF.drop 1,?_⟩;refine Dd O (Vt L[i0] cq0 pick[i0] _ _ (hcf0.ext hF.same) (hLs _ (eQ _)).ok (hG.ext hF.same)) (Xa XE O O O) ?_;rintro _ w ⟨y,rfl,hRt,hE⟩;have hY:=RX.made (ids:=[b5,b3,b2,b1]) hF.same.size (λx hx=>hF.lt_ids (by simpa using hx)) hRt;have hF:=hF.ext hE;clear hE hRt;refine⟨hF.drop 1,?_⟩;refine Ib O (Mj O) (Ib O (Gt O O) (Ib O (Ym O O) ?_));refine Gx O hF oZ O O Pi ?_;intro w hF hE;have hY:=hY.store hE (by grind);refine⟨hF.drop 1,?_⟩;refine Ib O (Kb O) (Ic (Ha (Ea (Xb (Bf cZ oZ O hF.F 0 O O) ?_))));refine Ge hF oZ O O Tr ?_;intro w hF hE;have hY:=hY.store hE (by grind);refine Da (Db (Cb (La (Mg O (l:=y.cells) O cZ oZ O (hF.cellsAll 1 O)) ?_)));have e0:Rf L pick (.node k t ks xs)=(Lk L[i0] pick[i0]).1:=by rw[Y5 (by rw[Rw];exact hc0i),Rw];show Ku L pick (Hs k t)=_;rw[hhx];unfold Ku;simp[List.getD,hi0,hi0p]
  rw[e0];exact⟨y,O,hY.done,hF.same⟩
 refine Ka (Ha (Ea (Ba (Mb Xc O) (Xb (Zg xQ O hF.F 1 O O) (Ba (Mb Id O) (Xb (Ej iZ O hF.F 1 O O) ?_))))));refine Ia (w':=w) (v:=.agg #[J k,I t,aQ,aQ]) Qb (If hF oX nZ O ?_);rintro b6 w hb6 hF -;refine Da (Ga (Ea (Ba (Mb Tb O) (Xb (Ie zQ O hF.F 2 O O) (Ba (Nf dX O) (Ba (Za O) (Da (Qa ?_))))))));refine Fc (λμ σ w=>∃(j:Nat),∃(ac:List Str × List Tree),∃(A1:Option Addr),∃(c1:Nat),∃(sk:List (Nat × Obj)),∃(A2:Option Addr),∃(c2:Nat),∃(si:List (Nat × Obj)),∃(vals:List Value),μ=xs.length-j/\(j<=xs.length)/\(Hj L pick k ks (xs.take j)=ac)/\(SlB 9 1 A1 ac.1.length c1 (ac.1.map λs=>Value.string (bs s)) sk)/\(SlB 36 4 A2 ac.2.length c2 vals si)/\(RX w0 ([b6,b3,b2,b1]++(ids sk++ids si)) w (ac.2.map Ob) vals)/\AllEq σ [(2,V b1),(3,V b2),(4,V b3),(8,V b6),(38,.slice B xs.length e),(39,J ((xs.length:Nat))),(40,J ((j:Int)))]/\FR w0 [] ([(b6,.cells #[J k,I t,.slice A1 ac.1.length c1,.slice A2 ac.2.length c2] 36),(b3,.cells #[.bool false,J 0,I [],aQ,aQ] 38),(b2,.cells #[J k,I t,.slice A ks.length c,.slice B xs.length e] 36),(b1,.cells #[.slice LA L.length lc,.slice PA pick.length pc] 118)]++(sk++(si++[]))) w) _ ⟨0,([],[]),none,0,[],none,0,[],[],O,(Nat.zero_le _),(by simp[Hj]),(SlB.nil _ _),(SlB.nil _ _),(RX.nil),WB,hF⟩ ?_;rintro μ σ w ⟨j,ac,A1,c1,sk,A2,c2,si,vals,rfl,hj,hac,hK,hI2,hV,hs,hF⟩;refine Cg.slots hs ?_;clear hs;intro σ;have hfl:=S9 hLs pick k ks xs j hj;rw[hac]at hfl;refine Ea (Ba (Pg O O) (Da (Ga ?_)));refine Jb O O (λhc1=>?_) (λhc1=>?_)
 ·
  refine Ka (Ha (Ga ?_));refine Fd (λσ w=>∃(ac3:List Str × List Tree),∃(A3:Option Addr),∃(c3:Nat),∃(sk3:List (Nat × Obj)),∃(A4:Option Addr),∃(c4:Nat),∃(si3:List (Nat × Obj)),∃(vals3:List Value),(Hj L pick k ks (xs.take (j+1))=ac3)/\(j<xs.length)/\(SlB 9 1 A3 ac3.1.length c3 (ac3.1.map λs=>Value.string (bs s)) sk3)/\(SlB 36 4 A4 ac3.2.length c4 vals3 si3)/\(RX w0 ([b6,b3,b2,b1]++(ids sk3++ids si3)) w (ac3.2.map Ob) vals3)/\AllEq σ [(2,V b1),(3,V b2),(4,V b3),(8,V b6),(38,.slice B xs.length e),(39,J ((xs.length:Nat))),(40,J ((j:Int)))]/\FR w0 [] ([(b6,.cells #[J k,I t,.slice A3 ac3.1.length c3,.slice A4 ac3.2.length c4] 36),(b3,.cells #[.bool false,J 0,I [],aQ,aQ] 38),(b2,.cells #[J k,I t,.slice A ks.length c,.slice B xs.length e] 36),(b1,.cells #[.slice LA L.length lc,.slice PA pick.length pc] 118)]++(sk3++(si3++[]))) w) ?_ ?_
  ·
   refine Qa (Ga ?_);have hjx:j<xs.length:=by omega
   obtain⟨adz,cz,hAz,hlz,hkz,hrz⟩:=hX.tree_elem hjx;obtain⟨z,rfl,-⟩:=Vg hrz;have hzp:=Ji hrz;have hzk:Tj xs[j]=Hs z.k z.t:=by rw[Rw,hzp.1,hzp.2.1]
   have hzm:=O9 (hop.kid (List.getElem_mem (l:=xs) hjx)).mx;have hzl:z.t.length<=140737488355328:=by rw[hzp.2.1];omega
   have hkid:0<=Hs z.k z.t->∃i,i<L.length/\Hs z.k z.t=(i:Int):=λh=>by rw[hzp.1,hzp.2.1]at h ⊢;have h9:=(hop.kid (List.getElem_mem (l:=xs) hjx)).hol;revert h h9;generalize xs[j]=u;intro h h9;cases u;exact ZS h9 h
   skip
   refine Ja (Ba (Za O) (Ia (v:=.pointer (some (adz.add (j*4)))) (Na (i:=(j:Int)) Wf O hAz O Aa Aa) (Ia (v:=.agg (z.cells).toArray) (Wa (l:=z.cells) aZ nZ O O (hF.cells0 hkz)) ?_)));refine Pc (cs:=#[J 0,I [],aQ,aQ]) hF oX O ?_;intro b7 w hb7 hF hE;have hV:=hV.alloc hE hb7;refine Ba (Fb O) (Ge hF nZ O O Pi ?_);intro w hF hE;have hV:=hV.store hE Oa;refine Lb (Xb (Bf isAgg118 sizeOf118 O hF.F 4 O O) (Xb (Bf aZ nZ O hF.F 0 O O) ?_));refine Eb (ih _ (eQ _) LA PA lc pc _ _ _ _ z.cells (hF.rep hL) (hF.rep hP) (hF.rep hrz) (hop.kid (eQ _)) (hG.ext hF.same)) (Xa en_102 O O O) ?_;rintro _ w ⟨q,rfl,hRt,hE⟩;have hQ:=RX.made (ids:=(b7::([b6,b3,b2,b1]++(ids sk++ids si)))) hF.same.size (λx hx=>hF.lt_ids (by simp only[ids,jQ,List.map_cons,List.map_nil,qQ,mQ,oQ]at hx ⊢;grind)) hRt;have hF:=hF.ext hE;have hV:=hV.ext hE;clear hE hRt;refine If hF pX oZ O ?_;intro b8 w hb8 hF hE;have hV:=hV.alloc hE hb8;have hQ:=hQ.alloc hE hb8;refine Lb (Xb (Bf aZ nZ O hF.F 1 O O) ?_);refine Eb (LS z hzl _ (hG.ext hF.same)) (Ma en_160 O O) ?_;rintro _ w ⟨rfl,hE⟩;have hF:=hF.ext hE;have hV:=hV.ext hE;have hQ:=hQ.ext hE;refine Ba (Fb O) (Da (Qa (Ga ?_)));have hqs:=Cd hQ.rep;refine Ja (Ba (Mb Ni O) (Xb (X3 dZ O hF.F 0 O O) (Ba (Di O) (Ba (Kb O) (Da ?_)))));refine Jd O O (λhc2=>?_) (λhc2=>?_)
   ·
    have hqn:(Rf L pick xs[j]).has=false:=by rw[<-hqs.1];simpa using hc2
    refine Ka (Ya (Ya ?_));exact Ta ⟨(ac),(A1),(c1),(sk),(A2),(c2),(si),(vals),(by rw[Fh xs ks j hjx,hac,kidF_no hqn,qQ,qQ]),(hjx),(hK),(hI2),(hV.sub (by intro x hx;simp only[ids,jQ,List.map_cons,List.map_nil,qQ,mQ,oQ]at hx ⊢;grind)),WB,hF.drop 2⟩
   have hqh:(Rf L pick xs[j]).has=true:=by rw[<-hqs.1];simpa using hc2
   have hQv:=hqs.2.2.2.2;refine Ea (Ba (Mb Xc O) (Xb (Zg xQ O hF.F 4 O O) (Ba (Of O O) (Ba (Kb O) (Da ?_)))));refine Jb O O (λhc3=>?_) (λhc3=>?_)
   ·
    have hjk:j<ks.length:=by have:=IZ hop.nod hc3;omega
    refine Md ⟨[16,18],λwq=>FR w0 [] [(b8,.cells (q.cells).toArray 38),(b7,.cells (z.cells).toArray 36),(b3,.cells #[.bool false,J 0,I [],aQ,aQ] 38),(b2,.cells #[J k,I t,.slice A ks.length c,.slice B xs.length e] 36),(b1,.cells #[.slice LA L.length lc,.slice PA pick.length pc] 118)] wq,[11,12]⟩ (bQ [0,1,2,3,4,5,6,9,10,11,12] (.alt 7 (.alt 8 (.free 15 (cQ [13,14,16] (.free 17 (.act 18 .nil)))) (.act 13 (.act 8 (.free 15 (.act 14 (.act 16 (.free 17 (.act 18 .nil)))))))) (cQ [13,7,8] (.free 15 (.act 14 (.act 16 (.free 17 (.act 18 .nil)))))))) hF ?_;intro w hF hE;have hV:=hV.ext hE;have hQ:=hQ.ext hE;refine⟨λwq=>FR w0 [] [(b8,.cells (q.cells).toArray 38),(b7,.cells (z.cells).toArray 36),(b6,.cells #[J k,I t,.slice A1 ac.1.length c1,.slice A2 ac.2.length c2] 36),(b3,.cells #[.bool false,J 0,I [],aQ,aQ] 38),(b2,.cells #[J k,I t,.slice A ks.length c,.slice B xs.length e] 36),(b1,.cells #[.slice LA L.length lc,.slice PA pick.length pc] 118)] wq,hF.mid 0 6,?_⟩;refine Ib O (Mb Tc O) (Ng O (Ie yQ O C0 2 O O) (Ib O (Mb Tc O) (Ng O (Ie yQ O C0 4 O O) (Ib O (Za O) ?_))));obtain⟨ad1,hA1,hk1,hx1⟩:=hKs.str_elem (i:=j) (hjk);refine Sa O (v:=.pointer (some (ad1.add (j*1)))) (λw hC=>Na (i:=(j:Int)) Pk O hA1 O Aa Aa) (Sa O (v:=I (ks[j])) (λw hC=>Nc iZ O (hC.cell0 hk1)) (Ib O (Mb Tb O) (Ng O (Ie zQ O C0 2 O O) (Ib O (Mb We O) ?_))));refine Tt O (v:=.agg (q.v.cells).toArray) (λw hC=>Wa (l:=q.v.cells) aZ nZ O O (hC.part 0 1 O O)) (λw hC=>Wa (l:=q.v.cells) aZ nZ O O (hC.part 0 1 O O)) (Iv ?_ ?_)
    ·
     refine Jf 1 O hF (Gb (cs:=#[I (ks[j])]) cX sZ sX Ua Ua Qb) ?_;intro b9 w hb9 hF hE;have hV:=hV.alloc hE hb9;have hQ:=hQ.alloc hE hb9;refine⟨hF.mid 1 6,?_⟩;refine Iv ?_ ?_
     ·
      refine Cq [_,_,_,_,_,_,_] [sk,si] 0 (news:=[I (ks[j])]) (len':=(ac.1++[ks[j]]).length) (ys:=((ac.1++[ks[j]]).map λs=>Value.string (bs s))) O Av hF hK O O (O) (λ_=>⟨_,O,Jc (hF.cellsAll 0 O)⟩) (by simp[Value.oneCell']) (by simp only[maxLen];omega) Oa Oa Aa ?_;intro A2 c2 k_2 w hS2_k hF hE hnew;have hsub:∀x∈(sk).map (·.1),x∈ids sk:=λ_ h=>h;have hV:=hV.grow hE hnew (λx hx=>by have:=hsub x hx;simp[this]);have hQ:=hQ.grow hE hnew (λx hx=>by have:=hsub x hx;simp[this]);clear hsub;refine⟨hF.mid 1 6,?_⟩;refine Ib O (Mb Tc O) (Jf 1 O hF (Gb (cs:=(q.v.cells).toArray) dX nZ oX Ua Ua Qb) ?_);intro b10 w hb10 hF hE;have hV:=hV.alloc hE hb10;have hQ:=hQ.alloc hE hb10;refine⟨hF.mid 2 6,?_⟩;refine Cq [_,_,_,_,_,_,_,_] [k_2,si] 1 (news:=[J (q.v.k),I (q.v.t),.slice q.v.A q.v.n q.v.c,.slice q.v.B q.v.m q.v.e]) (len':=(ac.2++[(Rf L pick xs[j]).val]).length) (ys:=vals++q.v.cells) O Np hF hI2 O O (O) (λ_=>⟨_,O,Jc (hF.cellsAll 0 O)⟩) (by simp[Value.oneCell']) (by simp only[maxLen];omega) Oa (O) Aa ?_;intro A3 c3 i_3 w hS3_i hF hE hnew;have hsub:∀x∈(si).map (·.1),x∈ids si:=λ_ h=>h;have hV:=hV.grow hE hnew (λx hx=>by have:=hsub x hx;simp[this]);have hQ:=hQ.grow hE hnew (λx hx=>by have:=hsub x hx;simp[this]);clear hsub;refine⟨hF.mid 2 6,?_⟩;refine Q_ (.slice _ _ _) O hF sizeOf33 O O sI4 V3 ?_;intro w hF hE;have hV:=hV.store hE Oa;have hQ:=hQ.store hE Oa;refine⟨hF.sub (.cons _ (.cons _ (.cons_cons _ (.cons_cons _ (.cons _ (.cons_cons _ (.cons_cons _ (.cons_cons _ (List.nil_sublist _))))))))),?_⟩;refine Ib O (Mb Tb O) (Q_ (.slice _ _ _) O hF mZ O O sI4 N_ ?_);intro w hF hE;have hV:=hV.store hE Oa;have hQ:=hQ.store hE Oa;refine⟨hF.sub (.cons _ (.cons _ (.cons_cons _ (.cons_cons _ (.cons _ (.cons_cons _ (.cons_cons _ (.cons_cons _ (List.nil_sublist _))))))))),?_⟩
      refine Ic (Ya (Ya ?_));exact Ta ⟨((ac.1++[ks[j]],ac.2++[(Rf L pick xs[j]).val])),(A2),(c2),(k_2),(A3),(c3),(i_3),(vals++q.v.cells),(by rw[Fh xs ks j hjx,hac,F_ hqh (by assumption),show ks.getD j []=ks[j] by simp[List.getD,hjk]]),(hjx),(hS2_k),(hS3_i),(by rw[jQ];exact (hV.append (RX.one (Cd hQ.rep).2.2.2.2)).sub (by intro x hx;simp only[ids,jQ,List.map_cons,List.map_nil,qQ,mQ,oQ]at hx ⊢;grind)),WB,hF.drop 4⟩
     refine Jf 1 O hF (Gb (cs:=(q.v.cells).toArray) dX nZ oX Ua Ua Qb) ?_;intro b11 w hb11 hF hE;have hV:=hV.alloc hE hb11;have hQ:=hQ.alloc hE hb11;refine⟨hF.mid 2 6,?_⟩;refine Cq [_,_,_,_,_,_,_,_] [sk,si] 0 (news:=[I (ks[j])]) (len':=(ac.1++[ks[j]]).length) (ys:=((ac.1++[ks[j]]).map λs=>Value.string (bs s))) O Av hF hK O O (O) (λ_=>⟨_,O,Jc (hF.cellsAll 1 O)⟩) (by simp[Value.oneCell']) (by simp only[maxLen];omega) Oa Oa Aa ?_;intro A4 c4 k_4 w hS4_k hF hE hnew;have hsub:∀x∈(sk).map (·.1),x∈ids sk:=λ_ h=>h;have hV:=hV.grow hE hnew (λx hx=>by have:=hsub x hx;simp[this]);have hQ:=hQ.grow hE hnew (λx hx=>by have:=hsub x hx;simp[this]);clear hsub;refine⟨hF.mid 2 6,?_⟩;refine Ib O (Mb Tc O) ?_;refine Cq [_,_,_,_,_,_,_,_] [k_4,si] 1 (news:=[J (q.v.k),I (q.v.t),.slice q.v.A q.v.n q.v.c,.slice q.v.B q.v.m q.v.e]) (len':=(ac.2++[(Rf L pick xs[j]).val]).length) (ys:=vals++q.v.cells) O Np hF hI2 O O (O) (λ_=>⟨_,O,Jc (hF.cellsAll 0 O)⟩) (by simp[Value.oneCell']) (by simp only[maxLen];omega) Oa (O) Aa ?_;intro A5 c5 i_5 w hS5_i hF hE hnew;have hsub:∀x∈(si).map (·.1),x∈ids si:=λ_ h=>h;have hV:=hV.grow hE hnew (λx hx=>by have:=hsub x hx;simp[this]);have hQ:=hQ.grow hE hnew (λx hx=>by have:=hsub x hx;simp[this]);clear hsub;refine⟨hF.mid 2 6,?_⟩;refine Q_ (.slice _ _ _) O hF sizeOf33 O O sI4 V3 ?_;intro w hF hE;have hV:=hV.store hE Oa;have hQ:=hQ.store hE Oa;refine⟨hF.sub (.cons _ (.cons _ (.cons_cons _ (.cons_cons _ (.cons _ (.cons_cons _ (.cons_cons _ (.cons_cons _ (List.nil_sublist _))))))))),?_⟩;refine Ib O (Mb Tb O) (Q_ (.slice _ _ _) O hF mZ O O sI4 N_ ?_);intro w hF hE;have hV:=hV.store hE Oa;have hQ:=hQ.store hE Oa;refine⟨hF.sub (.cons _ (.cons _ (.cons_cons _ (.cons_cons _ (.cons _ (.cons_cons _ (.cons_cons _ (.cons_cons _ (List.nil_sublist _))))))))),?_⟩
     refine Ic (Ya (Ya ?_));exact Ta ⟨((ac.1++[ks[j]],ac.2++[(Rf L pick xs[j]).val])),(A4),(c4),(k_4),(A5),(c5),(i_5),(vals++q.v.cells),(by rw[Fh xs ks j hjx,hac,F_ hqh (by assumption),show ks.getD j []=ks[j] by simp[List.getD,hjk]]),(hjx),(hS4_k),(hS5_i),(by rw[jQ];exact (hV.append (RX.one (Cd hQ.rep).2.2.2.2)).sub (by intro x hx;simp only[ids,jQ,List.map_cons,List.map_nil,qQ,mQ,oQ]at hx ⊢;grind)),WB,hF.drop 4⟩
    refine Jf 1 O hF (Gb (cs:=(q.v.cells).toArray) dX nZ oX Ua Ua Qb) ?_;intro b12 w hb12 hF hE;have hV:=hV.alloc hE hb12;have hQ:=hQ.alloc hE hb12;refine⟨hF.mid 1 6,?_⟩;refine Jf 1 O hF (Gb (cs:=#[I (ks[j])]) cX sZ sX Ua Ua Qb) ?_;intro b13 w hb13 hF hE;have hV:=hV.alloc hE hb13;have hQ:=hQ.alloc hE hb13;refine⟨hF.mid 2 6,?_⟩;refine Cq [_,_,_,_,_,_,_,_] [sk,si] 0 (news:=[I (ks[j])]) (len':=(ac.1++[ks[j]]).length) (ys:=((ac.1++[ks[j]]).map λs=>Value.string (bs s))) O Av hF hK O O (O) (λ_=>⟨_,O,Jc (hF.cellsAll 0 O)⟩) (by simp[Value.oneCell']) (by simp only[maxLen];omega) Oa Oa Aa ?_;intro A6 c6 k_6 w hS6_k hF hE hnew;have hsub:∀x∈(sk).map (·.1),x∈ids sk:=λ_ h=>h;have hV:=hV.grow hE hnew (λx hx=>by have:=hsub x hx;simp[this]);have hQ:=hQ.grow hE hnew (λx hx=>by have:=hsub x hx;simp[this]);clear hsub;refine⟨hF.mid 2 6,?_⟩;refine Ib O (Mb Tc O) ?_;refine Cq [_,_,_,_,_,_,_,_] [k_6,si] 1 (news:=[J (q.v.k),I (q.v.t),.slice q.v.A q.v.n q.v.c,.slice q.v.B q.v.m q.v.e]) (len':=(ac.2++[(Rf L pick xs[j]).val]).length) (ys:=vals++q.v.cells) O Np hF hI2 O O (O) (λ_=>⟨_,O,Jc (hF.cellsAll 1 O)⟩) (by simp[Value.oneCell']) (by simp only[maxLen];omega) Oa (O) Aa ?_;intro A7 c7 i_7 w hS7_i hF hE hnew;have hsub:∀x∈(si).map (·.1),x∈ids si:=λ_ h=>h;have hV:=hV.grow hE hnew (λx hx=>by have:=hsub x hx;simp[this]);have hQ:=hQ.grow hE hnew (λx hx=>by have:=hsub x hx;simp[this]);clear hsub;refine⟨hF.mid 2 6,?_⟩;refine Q_ (.slice _ _ _) O hF sizeOf33 O O sI4 V3 ?_;intro w hF hE;have hV:=hV.store hE Oa;have hQ:=hQ.store hE Oa;refine⟨hF.sub (.cons _ (.cons _ (.cons_cons _ (.cons_cons _ (.cons _ (.cons_cons _ (.cons_cons _ (.cons_cons _ (List.nil_sublist _))))))))),?_⟩;refine Ib O (Mb Tb O) (Q_ (.slice _ _ _) O hF mZ O O sI4 N_ ?_)
    intro w hF hE;have hV:=hV.store hE Oa;have hQ:=hQ.store hE Oa;refine⟨hF.sub (.cons _ (.cons _ (.cons_cons _ (.cons_cons _ (.cons _ (.cons_cons _ (.cons_cons _ (.cons_cons _ (List.nil_sublist _))))))))),?_⟩;refine Ic (Ya (Ya ?_));exact Ta ⟨((ac.1++[ks[j]],ac.2++[(Rf L pick xs[j]).val])),(A6),(c6),(k_6),(A7),(c7),(i_7),(vals++q.v.cells),(by rw[Fh xs ks j hjx,hac,F_ hqh (by assumption),show ks.getD j []=ks[j] by simp[List.getD,hjk]]),(hjx),(hS6_k),(hS7_i),(by rw[jQ];exact (hV.append (RX.one (Cd hQ.rep).2.2.2.2)).sub (by intro x hx;simp only[ids,jQ,List.map_cons,List.map_nil,qQ,mQ,oQ]at hx ⊢;grind)),WB,hF.drop 4⟩
   refine Ea (Ba (Za O) (Ba (Vx O O) (Ba (Dc O) ?_)));refine Bb (d:=85) O (λhg8=>?_) (λhg8=>?_)
   ·
    obtain⟨i1,hi1,hh1⟩:=hkid Aa;obtain⟨ad1,cq1,hAd1,hcq1,hcf1⟩:=hL.cf_elem hi1;have hcl1:=hcf1.k;rw[hh1];refine Ba (Mb Nv O) (Xb (Ie isAgg62 O hF.F 5 O O) (Ba (Za O) (Ia (v:=.pointer (some (ad1.add (i1*17)))) (Na (i:=(i1:Int)) Jz O hAd1 O Aa Aa) (Ia (v:=.pointer (some ((ad1.add (i1*17)).add 1))) (Zb (a:=ad1.add (i1*17)) Li O) (Ia (v:=J (cq1.k)) (Nc xQ O (hF.cell0 (hcq1 1 Ab))) (Ba (Of O O) (Ba (Rb O O) (Ba (Kb O) (Da ?_)))))))));refine Jb O O (λhc4=>?_) (λhc4=>?_)
    ·
     have hqm:=(Ji hQv).2.2.2.1;obtain⟨eG,hrG,hGl_,hGc⟩:=((Ji hQv).2.2.2.2.2).slice_open (λd hd=>by rw[Je]at hd;obtain⟨u,_,rfl⟩:=nQ.1 hd;exact Hc u);have hRG:RX w0 _ _ _ _:=hrG;have h5:0<=Tj xs[j]/\(L.getD (Tj xs[j]).toNat noC).cls=5:=by rw[hzk,hh1];exact⟨by omega,by rw[DD hi1];omega⟩
     have hil:=(BK hLs pick k [] xs[j]).1;rw[TG hqh (by assumption) h5]at hil;simp only at hil;refine Ja (Ba (Mb Tb O) (Xb (Ie zQ O hF.F 2 O O) (Ba (Mb We O) (Ba (Mb Tb O) (Xb (Ie zQ O hF.F 0 O O) ?_)))));refine BF [_,_,_,_,_,_] [sk,si] 1 (news:=eG) (len':=(ac.2++(Rf L pick xs[j]).val.items).length) (ys:=vals++eG) Np hF hI2 rfl rfl (hGl_) (λhk=>by obtain⟨ad,hA,hc⟩:=hGc hk;exact⟨ad,hA,Jc hc⟩) (Mi hrG.one_) (by simp only[maxLen];omega) (by rw[dQ,<-hqm]) (rfl) Aa ?_;intro A9 c9 i_9 w hS9_i hF hE hnew;have hsub:∀x∈(si).map (·.1),x∈ids si:=λ_ h=>h;have hV:=hV.grow hE hnew (λx hx=>by have:=hsub x hx;simp[this]);have hQ:=hQ.grow hE hnew (λx hx=>by have:=hsub x hx;simp[this]);have hRG:=hRG.grow hE hnew (λx hx=>by have:=hsub x hx;simp[this]);clear hsub;refine Ba (Mb Tb O) (Ro (.slice _ _ _) hF mZ O O V3 N_ ?_);intro w hF hE;have hV:=hV.store hE Oa;have hQ:=hQ.store hE Oa;have hRG:=hRG.store hE Oa;refine Va (Ya (Ya ?_));exact Ta ⟨((ac.1,ac.2++(Rf L pick xs[j]).val.items)),(A1),(c1),(sk),(A9),(c9),(i_9),(vals++eG),(by rw[Fh xs ks j hjx,hac,TG hqh (by assumption) h5,qQ]),(hjx),(hK),(hS9_i),(by rw[jQ,<-Je (Rf L pick xs[j]).val.items];exact (hV.append hRG).sub (by intro x hx;simp only[ids,jQ,List.map_cons,List.map_nil,qQ,mQ,oQ]at hx ⊢;grind)),WB,hF.drop 2⟩
    have h5n:¬(0<=Tj xs[j]/\(L.getD (Tj xs[j]).toNat noC).cls=5):=by
      rintro⟨ha,hb⟩
      first
      | (rw[hzk]at ha;omega)
      | (rw[hzk,hh1,DD hi1]at hb;omega)
    refine Ja (Ba (Mb Tb O) (Xb (Ie zQ O hF.F 2 O O) (Ba (Mb We O) (Ia (v:=.agg (q.v.cells).toArray) (Wa (l:=q.v.cells) aZ nZ O O (hF.part 0 1 O O)) ?_))));refine Mh 1 hF (Gb (cs:=(q.v.cells).toArray) dX nZ oX Ua Ua Qb) ?_;intro b14 w hb14 hF hE;have hV:=hV.alloc hE hb14;have hQ:=hQ.alloc hE hb14;refine BF [_,_,_,_,_,_,_] [sk,si] 1 (news:=[J (q.v.k),I (q.v.t),.slice q.v.A q.v.n q.v.c,.slice q.v.B q.v.m q.v.e]) (len':=(ac.2++[(Rf L pick xs[j]).val]).length) (ys:=vals++q.v.cells) Np hF hI2 O O (O) (λ_=>⟨_,O,Jc (hF.cellsAll 0 O)⟩) (by simp[Value.oneCell']) (by simp only[maxLen];omega) Oa (O) Aa ?_;intro A10 c10 i_10 w hS10_i hF hE hnew;have hsub:∀x∈(si).map (·.1),x∈ids si:=λ_ h=>h;have hV:=hV.grow hE hnew (λx hx=>by have:=hsub x hx;simp[this]);have hQ:=hQ.grow hE hnew (λx hx=>by have:=hsub x hx;simp[this]);clear hsub;refine Ba (Mb Tb O) (Ro (.slice _ _ _) hF mZ O O N_ N_ ?_);intro w hF hE;have hV:=hV.store hE Oa;have hQ:=hQ.store hE Oa;refine Va (Ya (Ya ?_));exact Ta ⟨((ac.1,ac.2++[(Rf L pick xs[j]).val])),(A1),(c1),(sk),(A10),(c10),(i_10),(vals++q.v.cells),(by rw[Fh xs ks j hjx,hac,DK hqh (by assumption) h5n,qQ]),(hjx),(hK),(hS10_i),(by rw[jQ];exact (hV.append (RX.one (Cd hQ.rep).2.2.2.2)).sub (by intro x hx;simp only[ids,jQ,List.map_cons,List.map_nil,qQ,mQ,oQ]at hx ⊢;grind)),WB,hF.drop 3⟩
   refine Ca (Ca (Ca (Ca (Ca (Ca (Ca (Ba (Pb O O) (Ba (Kb O) (Da (Zd O ?_))))))))));have h5n:¬(0<=Tj xs[j]/\(L.getD (Tj xs[j]).toNat noC).cls=5):=by
     rintro⟨ha,hb⟩
     first
     | (rw[hzk]at ha;omega)
     | (rw[hzk,hh1,DD hi1]at hb;omega)
   refine Ja (Ba (Mb Tb O) (Xb (Ie zQ O hF.F 2 O O) (Ba (Mb We O) (Ia (v:=.agg (q.v.cells).toArray) (Wa (l:=q.v.cells) aZ nZ O O (hF.part 0 1 O O)) ?_))));refine Mh 1 hF (Gb (cs:=(q.v.cells).toArray) dX nZ oX Ua Ua Qb) ?_;intro b15 w hb15 hF hE;have hV:=hV.alloc hE hb15;have hQ:=hQ.alloc hE hb15;refine BF [_,_,_,_,_,_,_] [sk,si] 1 (news:=[J (q.v.k),I (q.v.t),.slice q.v.A q.v.n q.v.c,.slice q.v.B q.v.m q.v.e]) (len':=(ac.2++[(Rf L pick xs[j]).val]).length) (ys:=vals++q.v.cells) Np hF hI2 O O (O) (λ_=>⟨_,O,Jc (hF.cellsAll 0 O)⟩) (by simp[Value.oneCell']) (by simp only[maxLen];omega) Oa (O) Aa ?_;intro A11 c11 i_11 w hS11_i hF hE hnew;have hsub:∀x∈(si).map (·.1),x∈ids si:=λ_ h=>h;have hV:=hV.grow hE hnew (λx hx=>by have:=hsub x hx;simp[this]);have hQ:=hQ.grow hE hnew (λx hx=>by have:=hsub x hx;simp[this]);clear hsub;refine Ba (Mb Tb O) (Ro (.slice _ _ _) hF mZ O O N_ N_ ?_);intro w hF hE;have hV:=hV.store hE Oa;have hQ:=hQ.store hE Oa;refine Va (Ya (Ya ?_));exact Ta ⟨((ac.1,ac.2++[(Rf L pick xs[j]).val])),(A1),(c1),(sk),(A11),(c11),(i_11),(vals++q.v.cells),(by rw[Fh xs ks j hjx,hac,DK hqh (by assumption) h5n,qQ]),(hjx),(hK),(hS11_i),(by rw[jQ];exact (hV.append (RX.one (Cd hQ.rep).2.2.2.2)).sub (by intro x hx;simp only[ids,jQ,List.map_cons,List.map_nil,qQ,mQ,oQ]at hx ⊢;grind)),WB,hF.drop 3⟩
  rintro σ w ⟨ac3,A3,c3,sk3,A4,c4,si3,vals3,hac3,hjx,hK3,hI3,hV3,hs,hF⟩;refine Eg.slots hs ?_;clear hs;intro σ;refine Ha (Ja (Ba (Bi (((j+1:Nat):Int)) O O) (Ba (Za O) (Va ?_))));refine Ta ⟨_,?_,j+1,ac3,A3,c3,sk3,A4,c4,si3,vals3,O,Aa,(hac3),(hK3),(hI3),(hV3),WB,hF⟩;omega
 refine Bc (Yb O ?_);refine Ha (Ea (Xb (Bf aZ nZ O hF.F 0 O O) ?_));refine Eb (has_c ⟨k,t,A1,ac.1.length,c1,A2,ac.2.length,c2⟩ _) (Ma en_161 O O) ?_;rintro _ w ⟨rfl,hE⟩;have hF:=hF.ext hE;have hV:=hV.ext hE;refine Ge hF oZ O O Tr ?_;intro w hF hE;have hV:=hV.store hE Oa;refine Da (Db (Cb (La (Mg O (l:=[.bool true,J k,I t,.slice A1 ac.1.length c1,.slice A2 ac.2.length c2]) O cZ oZ O (hF.cellsAll 1 O)) ?_)));obtain rfl:j=xs.length:=by omega
 have e0:Rf L pick (.node k t ks xs)=⟨true,.node k t ac.1 ac.2⟩:=by rw[Rf,if_neg (by rw[Rw];exact hc0),<-hac,List.take_length]
 rw[e0];have hkl:∀s∈ac.1,s.length<=9223372036854775807:=λs hs=>by rw[<-hac]at hs;rcases Lv _ (gQ _) s hs with h|h;(have:=hkm s h;omega);(rw[h];simp)
 refine⟨⟨true,k,t,A1,ac.1.length,c1,A2,ac.2.length,c2⟩,O,Xx (s:=⟨true,.node k t ac.1 ac.2⟩) (x:=⟨k,t,A1,ac.1.length,c1,A2,ac.2.length,c2⟩) (Rep.tree_mk ⟨by omega,by omega⟩ Aa ?_ ?_),hF.same⟩
 ·exact hK.rep (pre:=[_,_,_,_]) hF (RX.strs (ids:=([b6,b3,b2,b1]++(ids sk++ids si))) hkl) Oa
 rw[Je];exact hI2.rep (pre:=[_,_,_,_]++sk) (post:=[]) (by simpa using hF) hV Oa
theorem chFill_c(L:List Cf)(pick:List Int)(hlp:L.length=pick.length)(hLs:∀c∈L,CfS c)(x:Tree):FillC L pick x:=Tree.ind (GW L pick hlp hLs) x
theorem kid_size{L:List Cf}(hL:∀c∈L,CfS c)(pick:List Int)(k:Int)(key:Str)(x:Tree):Ec (Xt L k key (Tj x) (Rf L pick x)).2<=Nb (Rf L pick x).val:=by
  unfold Xt;split
  ·split
   ·simp[Ec]
   split
   ·have:=Mt (Rf L pick x).val;show Ec (Rf L pick x).val.items<=_;omega
   simp[Ec]
  simp[Ec]
theorem kid_max{L:List Cf}(pick:List Int)(k:Int)(key:Str)(x:Tree){M:Nat}(h:Kd (Rf L pick x).val<=M):∀y∈(Xt L k key (Tj x) (Rf L pick x)).2,Kd y<=M:=by
  unfold Xt;split
  ·split
   ·intro y hy;rw[pQ.1 hy];exact h
   split
   ·exact YB h
   intro y hy;rw[pQ.1 hy];exact h
  intro y hy;cases hy
theorem fill_big{L:List Cf}(hL:∀c∈L,CfS c)(pick:List Int)(x:Tree):Kd x<=16777216->Nb (Rf L pick x).val<=257*Nb x/\Kd (Rf L pick x).val<=16777216 :=
  Tree.ind (Q:=λx=>Kd x<=16777216->Nb (Rf L pick x).val<=257*Nb x/\Kd (Rf L pick x).val<=16777216) (λk t ks xs ih hm=>by
    by_cases h0:0<=Tj (.node k t ks xs)
    ·rw[Y5 h0]
     have:=X6 hL pick (Tj (.node k t ks xs));have:=Q2 (.node k t ks xs);exact⟨by omega,by omega⟩
    rw[Rf, if_neg h0];have key:∀j,j<=xs.length->Ec (Hj L pick k ks (xs.take j)).2<=257*Ec (xs.take j)/\∀y∈(Hj L pick k ks (xs.take j)).2,Kd y<=16777216:=by
      intro j
      induction j with
      | zero=>intro _;simp[Hj,Ec]
      | succ j ihj =>
        intro hj;obtain⟨h1,h2⟩:=ihj Aa;have hx:xs[j]' Aa∈xs:=eQ _;obtain⟨h3,h4⟩:=ih _ hx (YB (x:=.node k t ks xs) hm _ hx);rw[Fh xs ks j Aa];have h5:=kid_size hL pick k (ks.getD j []) (xs[j]' Aa);have h6:Ec (xs.take (j+1))=Ec (xs.take j)+Nb (xs[j]' Aa):=by rw[iQ Aa,Bm];simp[Ec]
        refine⟨by rw[Bm,h6];omega,λy hy=>?_⟩;rcases mQ.1 hy with hy|hy
        ·exact h2 y hy
        exact kid_max pick k _ _ h4 y hy
    obtain⟨h1,h2⟩:=key xs.length (gQ _);rw[List.take_length]at h1 h2;refine⟨by rw[Nb,Nb];omega,?_⟩;have h7:=U0 h2;have h8:Mk (Hj L pick k ks xs).1<=16777216:=Uz λs hs=>by
      have hs':=hs;rw[<-List.take_length (l:=xs)]at hs';rcases Lv xs.length (gQ _) s hs' with h|h
      ·exact BL (x:=.node k t ks xs) hm s h
      rw[h];simp
    have h9:=O9 (x:=.node k t ks xs) hm;simp only[Tree.text]at h9;rw[Kd];omega) x
theorem H7{v:Tree}{L:List Cf}{pick:List Int}(h:¬(Qg v=true/\Es v L pick=true)):Fl v L pick=(zeroT,1):=if_neg h
theorem Ev{v:Tree}{L:List Cf}{pick:List Int}(h:Qg v=true/\Es v L pick=true):Fl v L pick=if (Rf L pick v).has=true then (if Pf (Rf L pick v).val=true then ((Rf L pick v).val,0) else (zeroT,1)) else (zeroT,8):=if_pos h
theorem VW{v:Tree}(h:Qg v=true):Me nodeB v=true:=(Bool.and_eq_true_iff.1 h).2
theorem good_len{v:Tree}{L:List Cf}{pick:List Int}(h:Es v L pick=true):L.length=pick.length:=by
  unfold Es at h;rw[Bool.and_eq_true,decide_eq_true_eq]at h;exact h.1
theorem IH(L:List Cf)(pick:List Int)(LA PA:Option Addr)(lc pc:Nat)(SL SP:Nat->Prop)(t:Tree)(x:Tv)(SX:Nat->Prop)(w0:World)(hL:Rep SL w0 (.slice (L.map HA)) [.slice LA L.length lc])(hP:Rep SP w0 (.slice (pick.map Gj)) [.slice PA pick.length pc])(hLs:∀c∈L,CfS c)(hX:Rep SX w0 (Ob t) x.cells)(hol:HolIn L.length t)(hsz:Nb t<=512)(hmx:Kd t<=16777216)(hG:Gl w0):Calls prog 67 #[.agg (x.cells).toArray,.slice LA L.length lc,.slice PA pick.length pc] w0 (Yc λv w'=>∃q:Tv,v=.tuple #[.agg q.cells.toArray,J (Fl t L pick).2]/\Rep (Btw w0 w') w' (Ob (Fl t L pick).1) q.cells/\Same [] w0 w'):=by
 refine Fa func67 O ntmps67 Ab (Ik _ _ _) ?_;have hF:=FR.start w0 [];refine Ea (Ce hF O ?_);rintro b1 w hb1 hF -;refine Pc (cs:=#[J 0,I [],aQ,aQ]) hF oX O ?_;rintro b2 w hb2 hF -;refine Ba (Fb O) (Lb (Ba (Hd O) (Ba (Hd O) ?_)));refine Ia (w':=w) (v:=.agg #[.slice LA L.length lc,.slice PA pick.length pc]) Qb (If hF zeroValue118 sizeOf118 O ?_);rintro b3 w hb3 hF -;refine Da (Ga (Ea (Xb (Bf aZ nZ O hF.F 2 O O) ?_)));refine Pa hF (B8 t Aa _ _ x.cells (hF.rep hX) (Mn _ Aa) (hG.ext hF.same)) (Ma EM O O) ?_;intro w hF;refine Ba (Di O) (Ba (Dc O) ?_);refine Sc (d:=16) O (λhg0=>?_) (λhg0=>?_)
 ·
  refine Ca (Ca (Ca (Ca (Ba (Rb O O) (Da (Yd O (Ea ?_)))))));refine Ia (w':=w) (v:=.agg #[J 0,I [],aQ,aQ]) Qb (Ge hF nZ O O Tr ?_);rintro w hF -;refine Ba (Fb O) (Da ?_);refine Db (Cb (La (Ld O (l:=[J 0,I [],aQ,aQ]) O aZ nZ O (hF.cellsAll 1 O) (v:=J 1) O) ?_));rw[H7 (by simp_all)];exact⟨C4,O,An _ _,hF.same⟩
 refine Xb (Bf isAgg118 sizeOf118 O hF.F 0 O O) (Xb (Bf aZ nZ O hF.F 2 O O) ?_);refine Pa hF (goodC_c L pick LA PA lc pc _ _ t x _ _ (hF.rep hL) (hF.rep hP) (λc hc=>(hLs c hc).ok) (hF.rep hX) Aa (hG.ext hF.same)) (Xa en_101 O O O) ?_;intro w hF;refine Ba (Di O) (Ba (Pb O O) (Da ?_));refine Jd O O (λhc0=>?_) (λhc0=>?_)
 ·
  refine Ea (Ia (w':=w) (v:=.agg #[J 0,I [],aQ,aQ]) Qb ?_);refine Ge hF nZ O O Tr ?_;rintro w hF -;refine Ba (Fb O) (Da ?_);refine Db (Cb (La (Ld O (l:=[J 0,I [],aQ,aQ]) O aZ nZ O (hF.cellsAll 1 O) (v:=J 1) O) ?_));rw[H7 (by simp_all)];exact⟨C4,O,An _ _,hF.same⟩
 refine Ka (Ha (Ea (Xb (Bf isAgg118 sizeOf118 O hF.F 0 O O) (Xb (Bf aZ nZ O hF.F 2 O O) ?_))));have hgo:Qg t=true/\Es t L pick=true:=by simp_all
 refine Eb (chFill_c L pick (good_len hgo.2) hLs t LA PA lc pc _ _ _ _ x.cells (hF.rep hL) (hF.rep hP) (hF.rep hX) ⟨hol,VW hgo.1,hsz,hmx⟩ (hG.ext hF.same)) (Xa en_102 O O O) ?_;rintro _ w ⟨y,rfl,hRt,hE⟩;have hY:=RX.made (ids:=[b3,b2,b1]) hF.same.size (λx hx=>hF.lt_ids (by simpa using hx)) hRt;have hyp:=Cd hRt;have hF:=hF.ext hE;clear hE hRt;have hfb:=fill_big hLs pick t hmx;refine If hF pX oZ O ?_;intro b4 w hb4 hF hE;have hY:=hY.alloc hE hb4;refine Da (Ga (Qa (Ea (Ba (Mb Ni O) (Xb (X3 dZ O hF.F 0 O O) (Ba (Di O) (Ba (Kb O) (Da ?_))))))));refine Jd O O (λhc1=>?_) (λhc1=>?_)
 ·
  refine Ea (Ia (w':=w) (v:=.agg #[J 0,I [],aQ,aQ]) Qb ?_);refine Ge hF nZ O O V3 ?_;intro w hF hE;have hY:=hY.store hE (by grind);refine Ba (Fb O) (Da ?_);refine Db (Cb (La (Ld O (l:=[J 0,I [],aQ,aQ]) O aZ nZ O (hF.cellsAll 2 O) (v:=J 8) O) ?_));rw[show Fl t L pick=(zeroT,8) by rw[Ev hgo,if_neg (by rw[<-hyp.1];simp_all)]];exact⟨C4,O,An _ _,hF.same⟩
 refine Ea (Ba (Mb We O) (Ia (v:=.agg (y.v.cells).toArray) (Wa (l:=y.v.cells) aZ nZ O O (hF.part 0 1 O O)) ?_));refine Eb (L6 (Rf L pick t).val Aa _ _ y.v.cells (Cd hY.rep).2.2.2.2 (Mn _ Aa) (hG.ext hF.same)) (Ma OT O O) ?_;rintro _ w ⟨rfl,hE⟩;have hF:=hF.ext hE;have hY:=hY.ext hE;refine Ba (Di O) (Ba (Kb O) (Da ?_));refine Jd O O (λhc2=>?_) (λhc2=>?_)
 ·
  refine Ea (Ia (w':=w) (v:=.agg #[J 0,I [],aQ,aQ]) Qb ?_);refine Ge hF nZ O O V3 ?_;intro w hF hE;have hY:=hY.store hE (by grind);refine Ba (Fb O) (Da ?_);refine Db (Cb (La (Ld O (l:=[J 0,I [],aQ,aQ]) O aZ nZ O (hF.cellsAll 2 O) (v:=J 1) O) ?_));rw[show Fl t L pick=(zeroT,1) by rw[Ev hgo,if_pos (by rw[<-hyp.1];simp_all),if_neg (by simp_all)]];exact⟨C4,O,An _ _,hF.same⟩
 refine Ka (Ya (Ha (Ea (Ba (Mb We O) (Ia (v:=.agg (y.v.cells).toArray) (Wa (l:=y.v.cells) aZ nZ O O (hF.part 0 1 O O)) ?_)))));refine Ge hF nZ O O V3 ?_;intro w hF hE;have hY:=hY.store hE (by grind);refine Ba (Fb O) (Da ?_);refine Db (Cb (La (Ld O (l:=y.v.cells) O aZ nZ O (hF.cellsAll 2 O) (v:=J 0) O) ?_));rw[show Fl t L pick=((Rf L pick t).val,0) by rw[Ev hgo,if_pos (by rw[<-hyp.1];simp_all),if_pos (by simp_all)]];have hYd:=hY.done;exact⟨y.v,O,(Cd hYd).2.2.2.2,hF.same⟩
end Go.Scarf
