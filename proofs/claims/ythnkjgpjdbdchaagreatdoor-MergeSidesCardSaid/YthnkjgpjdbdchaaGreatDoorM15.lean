/- A part of the proof. -/
import Derived.Test.YthnkjgpjdbdchaaGreatDoorM13
set_option linter.all false
set_option maxHeartbeats 8000000
set_option maxRecDepth 10000
namespace Go.Scarf
open Go.RowKit Go.Proofs Go.Proofs.Tryz
theorem Bh{L:List Cf}{pick:List Int}{k:Int}:∀(xs:List Tree)(ks:List Str)(j:Nat)(hj:j<xs.length),
    Aj L pick k ks (xs.take (j+1))=((Aj L pick k ks (xs.take j)).1++(Zs L k (ks.getD j []) (Ji xs[j]) (Ve L pick xs[j])).1,(Aj L pick k ks (xs.take j)).2++(Zs L k (ks.getD j []) (Ji xs[j]) (Ve L pick xs[j])).2)
  | [],_,_,hj=>absurd hj Da
  | x :: xs, ks, 0, _ => by
    simp only[List.take_succ_cons,List.take_zero,Aj,List.nil_append,qQ,List.getElem_cons_zero];cases ks <;> rfl
  | x :: xs, ks, j + 1, hj => by
    have ih:=Bh (L:=L) (pick:=pick) (k:=k) xs ks.tail j (by simpa using hj);rw[List.take_succ_cons,Aj,ih,List.take_succ_cons,Aj];have e:ks.tail.getD j []=ks.getD (j+1) []:=by cases ks <;> simp
    simp only[e,List.getElem_cons_succ,sQ]
structure CfS (c:Cf):Prop where
  rig:CfR c
  b:Rb c.b.val<=256/\Nd c.b.val<=16777216
  l:Rb c.l.val<=256/\Nd c.l.val<=16777216
  r:Rb c.r.val<=256/\Nd c.r.val<=16777216
theorem CfS.ok{c:Cf}(h:CfS c):CfOk c:=⟨⟨by have:=h.b;omega,Oh _ (by have:=h.b;omega)⟩,⟨by have:=h.l;omega,Oh _ (by have:=h.l;omega)⟩,⟨by have:=h.r;omega,Oh _ (by have:=h.r;omega)⟩⟩
theorem C_{s:Sd}(h:SdR s):Yp s=s:=by
  rcases h with rfl|⟨h1,h2⟩
  ·rfl
  unfold Yp;rw[if_pos h1,Lu h2,<-h1]
theorem VN{c:Cf}(h:CfS c)(pk:Int):Rb (Xk c pk).1.val<=256/\Nd (Xk c pk).1.val<=16777216:=by
  obtain⟨r1,r2,r3,-⟩:=h.rig;unfold Xk;split
  ·rw[C_ r1];exact h.b
  split
  ·rw[C_ r2];exact h.l
  split
  ·rw[C_ r3];exact h.r
  simp[noS,zeroT,Rb,Pb,Nd,Vk,Jj]
theorem W_{L:List Cf}(h:∀c∈L,CfS c)(pick:List Int)(i:Int):Rb (Qv L pick i).val<=256/\Nd (Qv L pick i).val<=16777216:=by
  unfold Qv;by_cases hi:i.toNat<L.length
  ·have e : L.getD i.toNat noC = L[i.toNat] := by simp[List.getD, hi]
   rw[e];exact VN (h _ (eQ _)) _
  have e : L.getD i.toNat noC = noC := by simp[List.getD, Nat.not_lt.1 hi]
  rw[e];unfold Xk;have z:Yp noC.b=noS/\Yp noC.l=noS/\Yp noC.r=noS:=⟨rfl,rfl,rfl⟩;rw[z.1,z.2.1,z.2.2];split <;> (try split) <;> (try split) <;> simp[noS,zeroT,Rb,Pb,Nd,Vk,Jj]
theorem I7{L:List Cf}{pick:List Int}{x:Tree}(h:0<=Ji x):Ve L pick x=Qv L pick (Ji x):=by cases x;rw[Ve,if_pos h]
theorem TI{L:List Cf}(hL:∀c∈L,CfS c)(pick:List Int)(k:Int)(key:Str)(x:Tree):(Zs L k key (Ji x) (Ve L pick x)).2.length<=256/\(Zs L k key (Ji x) (Ve L pick x)).1.length<=1:=by
  unfold Zs;split
  ·split
   ·simp
   split
   ·rename_i h5
    rw[I7 h5.1];have h1:=(W_ hL pick (Ji x)).1;have h2:=Yo (Qv L pick (Ji x)).val;have h3:=Ii (Qv L pick (Ji x)).val.items;refine⟨?_,by simp⟩;show (Qv L pick (Ji x)).val.items.length<=256;omega
   simp
  simp
theorem H_{L:List Cf}(hL:∀c∈L,CfS c)(pick:List Int)(k:Int)(ks:List Str)(xs:List Tree):∀j,j<=xs.length->(Aj L pick k ks (xs.take j)).2.length<=256*j/\(Aj L pick k ks (xs.take j)).1.length<=j
  | 0,_=>by simp[Aj]
  | j + 1, hj => by
    have ih:=H_ hL pick k ks xs j sX;have h1:=TI hL pick k (ks.getD j []) (xs[j]'by_Om);rw[Bh xs ks j sX];simp only[dQ];omega
theorem Lw{L:List Cf}{pick:List Int}{k:Int}{ks:List Str}{xs:List Tree}:∀j,j<=xs.length->∀s∈(Aj L pick k ks (xs.take j)).1,s∈ks\/s=[]
  | 0,_=>λs hs=>by simp[Aj]at hs
  | j + 1, hj => λs hs => by
    rw[Bh xs ks j sX]at hs;rcases mQ.1 hs with hs|hs
    ·exact Lw j sX s hs
    have:s=ks.getD j []:=by
      unfold Zs at hs;split at hs
      ·split at hs
       ·simpa using hs
       split at hs <;> simp at hs
      simp at hs
    rw[this];by_cases hjk:j<ks.length
    ·left;simp[List.getD,hjk]
    right;simp[List.getD,Nat.not_lt.1 hjk]
def HolIn(n:Nat)(x:Tree):Prop:=∀t∈Vg x,∃i,i<n/\i<1000/\t=Oi i
theorem WR{n:Nat}{k:Int}{t:Str}{ks:List Str}{xs:List Tree}(h:HolIn n (.node k t ks xs))(h0:0<=Yt k t):∃i,i<n/\Yt k t=(i:Int):=by
  by_cases hk:k=7
  ·obtain⟨i, hi, hi2, e⟩ := h t (by rw[Vg, if_pos hk];simp)
   refine⟨i,hi,?_⟩;have:=HM hi2;rw[e,hk];exact this
  have : Yt k t = -1 := if_pos hk;omega
theorem HolIn.kid{n:Nat}{k:Int}{t:Str}{ks:List Str}{xs:List Tree}(h:HolIn n (.node k t ks xs)){x:Tree}(hx:x∈xs):HolIn n x:=λs hs=>h s (by
  rw[Vg,Wh];exact List.mem_append_right _ (List.mem_flatMap.2 ⟨x,hx,hs⟩))
structure OpT (n:Nat) (x:Tree):Prop where
  hol:HolIn n x
  nod:Zd nodeB x=true
  sz:Rb x<=512
  mx:Nd x<=16777216
theorem OpT.kid{n:Nat}{k:Int}{t:Str}{ks:List Str}{xs:List Tree}(h:OpT n (.node k t ks xs)){x:Tree}(hx:x∈xs):OpT n x :=
  ⟨h.hol.kid hx,(Se h.nod).2 x hx,by have:=h.sz;have:=Sh hx;rw[Rb]at *;omega,by have:=h.mx;have:=Di hx;rw[Nd]at *;omega⟩
theorem KF{L:List Cf}{i:Nat}(h:i<L.length):L.getD ((i:Nat):Int).toNat noC=L[i]:=by simp[List.getD,h]
theorem kidF_no{L:List Cf}{k:Int}{key:Str}{h:Int}{s:Sd}(hs:s.has=false):Zs L k key h s=([],[]):=by unfold Zs;rw[if_neg (by rw[hs];decide)]
theorem M_{L:List Cf}{k:Int}{key:Str}{h:Int}{s:Sd}(hs:s.has=true)(hk:k=6):Zs L k key h s=([key],[s.val]):=by unfold Zs;rw[if_pos hs,if_pos hk]
theorem BI{L:List Cf}{k:Int}{key:Str}{h:Int}{s:Sd}(hs:s.has=true)(hk:¬k=6)(h5:0<=h/\(L.getD h.toNat noC).cls=5):Zs L k key h s=([],s.val.items):=by unfold Zs;rw[if_pos hs,if_neg hk,if_pos h5]
theorem MH{L:List Cf}{k:Int}{key:Str}{h:Int}{s:Sd}(hs:s.has=true)(hk:¬k=6)(h5:¬(0<=h/\(L.getD h.toNat noC).cls=5)):Zs L k key h s=([],[s.val]):=by unfold Zs;rw[if_pos hs,if_neg hk,if_neg h5]
def KY(L:List Cf)(pick:List Int)(x:Tree):Prop:=∀(LA PA:Option Addr)(lc pc:Nat)(SL SP S:Nat->Prop)(w0:World)(cs:List Value),Rep SL w0 (.slice (L.map XB)) [.slice LA L.length lc]->Rep SP w0 (.slice (pick.map Ah)) [.slice PA pick.length pc]->Rep S w0 (Wb x) cs->OpT L.length x->Gl w0 ->
  Calls prog 41 #[.agg #[.slice LA L.length lc,.slice PA pick.length pc],.agg cs.toArray] w0 (Wd λv w'=>∃y:Sv,v=.agg y.cells.toArray/\Rep (Btw w0 w') w' (Je (Ve L pick x)) y.cells/\Same [] w0 w')
theorem W8{M:Nat}{x:Tree}(h:Nd x<=M):x.text.length<=M:=by
  cases x with
  | node k t ks xs=>rw[Nd]at h;show t.length<=M;omega
theorem CY{k:Int}{t:Str}{ks:List Str}{xs:List Tree}(h:Zd nodeB (.node k t ks xs)=true)(hk:k=6):ks.length=xs.length:=by
  have h1:=(Se h).1;subst hk;unfold nodeB at h1;simp at h1;have h2:=h1.1;unfold Yr at h2;simp at h2;omega
theorem ST(L:List Cf)(pick:List Int)(hlp:L.length=pick.length)(hLs:∀c∈L,CfS c)(k:Int)(t:Str)(ks:List Str)(xs:List Tree)(ih:∀x,x∈xs->KY L pick x):KY L pick (.node k t ks xs):=by
  intro LA PA lc pc SL SP S w0 cs hL hP hR hop hG;obtain⟨A,c,B,e,rfl,hk0,ht0,hKs,hX⟩:=hR.tree_inv;have hXl:=hX.slice_len;have hLl:=hL.slice_len;have hPl:=hP.slice_len;simp only[rQ]at hLl hPl;have hsz:=hop.sz;rw[Rb]at hsz;have hxn:=Ii xs;have htm:=W8 hop.mx;have htl:t.length<=140737488355328:=by simp only[Tree.text]at htm;omega
  have hkm:∀s∈ks,s.length<=16777216:=L0 hop.mx;refine Fa func41 O ntmps41 Ib (Hd _ _) ?_;have hF:=FR.start w0 [];refine Ja (Ga ?_);refine Df hF O ?_;intro b1 w hb1 hF hE;refine Df hF O ?_;intro b2 w hb2 hF hE;refine Md (cs:=#[.bool false,J 0,I [],aQ,aQ]) hF oX O ?_;intro b3 w hb3 hF hE;refine Gb (Ia ?_);refine Ja (Ja ?_);refine Ga (Rc (Rf zQ oZ O hF.F 1 O O) ?_);refine Hb hF (LQ ⟨k,t,A,ks.length,c,B,xs.length,e⟩ htl _ (hG.ext hF.same)) (Ra en_74 O O) ?_;intro w hF;refine Ca (Uc O) (Gb ?_);refine Ia (Ja ?_);refine Ga (Ca (Qb O) ?_);refine Ca (HL O O) (Gb ?_);refine Ia (Nc O O (λhc0=>?_) (λhc0=>?_))
  ·
   have hc0i:=hc0;obtain⟨i0,hi0,hhx⟩:=WR hop.hol hc0;have hi0p:i0<pick.length:=by omega
   obtain⟨ad0,cq0,hAd0,hcq0,hcf0⟩:=hL.cf_elem hi0;rw[hhx];refine Ja (Ig (zs:=.of []) (bQ [0,1,2,3,4,5,6,7,8,9] (.alt 10 (bQ [11,12,13] (.act 14 (.act 15 (.free 16 .nil)))) (.act 14 (.act 10 (bQ [11,12,13] (.act 15 (.free 16 .nil))))))) hF ?_);intro w hF;refine Cb O (Zb M2 O) (Vi O (Tf isAgg30 O C0 2 O O) ?_);refine Cb O (Qb O) (Pa O (v:=.pointer (some (ad0.add (i0*17)))) (λw hC=>Ta (i:=(i0:Int)) M8 O hAd0 O sX sX) ?_);refine Pa O (v:=.agg #[.slice cq0.A cq0.n cq0.c,J (cq0.k),.bool (cq0.x.h),J (cq0.x.v.k),I (cq0.x.v.t),.slice cq0.x.v.A cq0.x.v.n cq0.x.v.c,.slice cq0.x.v.B cq0.x.v.m cq0.x.v.e,.bool (cq0.y.h),J (cq0.y.v.k),I (cq0.y.v.t),.slice cq0.y.v.A cq0.y.v.n cq0.y.v.c,.slice cq0.y.v.B cq0.y.v.m cq0.y.v.e,.bool (cq0.z.h),J (cq0.z.v.k),I (cq0.z.v.t),.slice cq0.z.v.A cq0.z.v.n cq0.z.v.c,.slice cq0.z.v.B cq0.z.v.m cq0.z.v.e]) (λw hC=>Va (l:=cq0.cells) isAgg41 sizeOf41 O O (hC.cells0 hcq0)) (Cb O (Zb TF O) ?_);refine Vi O (Tf dZ O C0 2 O O) (Cb O (Qb O) ?_);obtain⟨ad0,hA0,hk0,hx0⟩:=hP.int_elem (i:=i0) (hi0p);refine Pa O (v:=.pointer (some (ad0.add (i0*1)))) (λw hC=>Ta (i:=(i0:Int)) Yg O hA0 O sX sX) (Pa O (v:=J (pick[i0])) (λw hC=>Ob aZ O (hC.cell0 hk0)) ?_);refine Xe ?_ ?_
   ·
    refine Jb O (Jv L[i0] cq0 pick[i0] _ _ (hcf0.ext hF.same) (hLs _ (eQ _)).ok (hG.ext hF.same)) (Ya TP O O O) ?_;rintro _ w ⟨y,rfl,hRt,hE⟩;have hY:=RX.made (ids:=[b3,b2,b1]) hF.same.size (λx hx=>hF.lt_ids (by simpa using hx)) hRt;have hF:=hF.ext hE;clear hE hRt;refine⟨hF,?_⟩;refine Cb O (Bo O) (Cb O (Py O O) ?_);refine Cb O (Ar O O) (Me O (v:=λb=>V b) (o:=.cells #[.bool false,J 0,I [],aQ,aQ] 39) hF (De oX) ?_);intro b4 w hb4 hF hE;have hY:=hY.alloc hE hb4;refine⟨hF.drop 1,?_⟩;refine Up O hF qZ O O Ih ?_;intro w hF hE;have hY:=hY.store hE (by grind);refine⟨hF.drop 1,?_⟩;refine Cb O (Ic O) (Fc ?_);refine Ia (Ja ?_);refine Ga (Rc (Rf bZ qZ O hF.F 0 O O) ?_);refine If hF qZ O O Ct ?_;intro w hF hE;have hY:=hY.store hE (by grind);refine Gb (Ia ?_);refine Cc (Bc (Ua (Uf O (l:=y.cells) O bZ qZ O (hF.cellsAll 1 O)) ?_));have e0:Ve L pick (.node k t ks xs)=(Xk L[i0] pick[i0]).1:=by rw[I7 (by rw[Yx];exact hc0i),Yx];show Qv L pick (Yt k t)=_;rw[hhx];unfold Qv;simp[List.getD,hi0,hi0p]
    rw[e0];exact⟨y,O,hY.done,hF.same⟩
   refine Me O (v:=λb=>V b) (o:=.cells #[.bool false,J 0,I [],aQ,aQ] 39) hF (De oX) ?_;intro b5 w hb5 hF hE;refine⟨hF.drop 1,?_⟩;refine Jb O (Jv L[i0] cq0 pick[i0] _ _ (hcf0.ext hF.same) (hLs _ (eQ _)).ok (hG.ext hF.same)) (Ya TP O O O) ?_;rintro _ w ⟨y,rfl,hRt,hE⟩;have hY:=RX.made (ids:=[b5,b3,b2,b1]) hF.same.size (λx hx=>hF.lt_ids (by simpa using hx)) hRt;have hF:=hF.ext hE;clear hE hRt;refine⟨hF.drop 1,?_⟩;refine Cb O (Bo O) (Cb O (Py O O) ?_);refine Cb O (Ar O O) (Up O hF qZ O O Ih ?_);intro w hF hE;have hY:=hY.store hE (by grind);refine⟨hF.drop 1,?_⟩;refine Cb O (Ic O) (Fc ?_);refine Ia (Ja ?_);refine Ga (Rc (Rf bZ qZ O hF.F 0 O O) ?_);refine If hF qZ O O Ct ?_;intro w hF hE;have hY:=hY.store hE (by grind);refine Gb (Ia ?_);refine Cc (Bc (Ua (Uf O (l:=y.cells) O bZ qZ O (hF.cellsAll 1 O)) ?_));have e0:Ve L pick (.node k t ks xs)=(Xk L[i0] pick[i0]).1:=by rw[I7 (by rw[Yx];exact hc0i),Yx];show Qv L pick (Yt k t)=_;rw[hhx];unfold Qv;simp[List.getD,hi0,hi0p]
   rw[e0];exact⟨y,O,hY.done,hF.same⟩
  refine Wa (Ia ?_);refine Ja (Ga ?_);refine Ca (Zb Mg O) (Rc (Wr aZ O hF.F 1 O O) ?_);refine Ca (Zb Xh O) (Rc (Iy fZ O hF.F 1 O O) ?_);refine Ka (w':=w) (v:=.agg #[J k,I t,aQ,aQ]) Mb (Kh hF mX oZ O ?_);intro b6 w hb6 hF hE;refine Gb (Ia ?_);refine Ja (Ja ?_);refine Ga (Ca (Zb Gc O) ?_);refine Rc (Tf xQ O hF.F 2 O O) (Ca (Mf cX O) ?_);refine Ca (Qb O) (Gb ?_);refine Ia (Za ?_);refine Ad (λμ σ w=>∃(j:Nat),∃(ac:List Str × List Tree),∃(A1:Option Addr),∃(c1:Nat),∃(sk:List (Nat × Obj)),∃(A2:Option Addr),∃(c2:Nat),∃(si:List (Nat × Obj)),∃(vals:List Value),μ=xs.length-j/\(j<=xs.length)/\(Aj L pick k ks (xs.take j)=ac)/\(SlB 9 1 A1 ac.1.length c1 (ac.1.map λs=>Value.string (bs s)) sk)/\(SlB 25 4 A2 ac.2.length c2 vals si)/\(RX w0 ([b6,b3,b2,b1]++(ids sk++ids si)) w (ac.2.map Wb) vals)/\AllEq σ [(2,V b1),(3,V b2),(4,V b3),(8,V b6),(38,.slice B xs.length e),(39,J ((xs.length:Nat))),(40,J ((j:Int)))]/\FR w0 [] ([(b6,.cells #[J k,I t,.slice A1 ac.1.length c1,.slice A2 ac.2.length c2] 25),(b3,.cells #[.bool false,J 0,I [],aQ,aQ] 39),(b2,.cells #[J k,I t,.slice A ks.length c,.slice B xs.length e] 25),(b1,.cells #[.slice LA L.length lc,.slice PA pick.length pc] 72)]++(sk++(si++[]))) w) _ ⟨0,([],[]),none,0,[],none,0,[],[],O,(Nat.zero_le _),(by simp[Aj]),(SlB.nil _ _),(SlB.nil _ _),(RX.nil),IA,hF⟩ ?_;rintro μ σ w ⟨j,ac,A1,c1,sk,A2,c2,si,vals,rfl,hj,hac,hK,hI2,hV,hs,hF⟩;refine Cg.slots hs ?_;clear hs;intro σ;have hfl:=H_ hLs pick k ks xs j hj;rw[hac]at hfl;refine Ja (Ga ?_);refine Ca (An O O) (Gb ?_);refine Ia (Ja ?_);refine Nc O O (λhc1=>?_) (λhc1=>?_)
  ·
   refine Wa (Ia ?_);refine Ja (Ok (λσ w=>∃(ac3:List Str × List Tree),∃(A3:Option Addr),∃(c3:Nat),∃(sk3:List (Nat × Obj)),∃(A4:Option Addr),∃(c4:Nat),∃(si3:List (Nat × Obj)),∃(vals3:List Value),(Aj L pick k ks (xs.take (j+1))=ac3)/\(j<xs.length)/\(SlB 9 1 A3 ac3.1.length c3 (ac3.1.map λs=>Value.string (bs s)) sk3)/\(SlB 25 4 A4 ac3.2.length c4 vals3 si3)/\(RX w0 ([b6,b3,b2,b1]++(ids sk3++ids si3)) w (ac3.2.map Wb) vals3)/\AllEq σ [(2,V b1),(3,V b2),(4,V b3),(8,V b6),(38,.slice B xs.length e),(39,J ((xs.length:Nat))),(40,J ((j:Int)))]/\FR w0 [] ([(b6,.cells #[J k,I t,.slice A3 ac3.1.length c3,.slice A4 ac3.2.length c4] 25),(b3,.cells #[.bool false,J 0,I [],aQ,aQ] 39),(b2,.cells #[J k,I t,.slice A ks.length c,.slice B xs.length e] 25),(b1,.cells #[.slice LA L.length lc,.slice PA pick.length pc] 72)]++(sk3++(si3++[]))) w) ?_ ?_)
   ·
    refine Za (Ja ?_);have hjx:j<xs.length:=by omega
    obtain⟨adz,cz,hAz,hlz,hkz,hrz⟩:=hX.tree_elem hjx;obtain⟨z,rfl,-⟩:=Bl hrz;have hzp:=Yf hrz;have hzk:Ji xs[j]=Yt z.k z.t:=by rw[Yx,hzp.1,hzp.2.1]
    have hzm:=W8 (hop.kid (List.getElem_mem (l:=xs) hjx)).mx;have hzl:z.t.length<=140737488355328:=by rw[hzp.2.1];omega
    have hkid:0<=Yt z.k z.t->∃i,i<L.length/\Yt z.k z.t=(i:Int):=λh=>by rw[hzp.1,hzp.2.1]at h ⊢;have h9:=(hop.kid (List.getElem_mem (l:=xs) hjx)).hol;revert h h9;generalize xs[j]=u;intro h h9;cases u;exact WR h9 h
    skip
    refine Ga (Ca (Qb O) ?_);refine Ka (v:=.pointer (some (adz.add (j*4)))) (Ta (i:=(j:Int)) Xd O hAz O sX sX) (Ka (v:=.agg (z.cells).toArray) (Va (l:=z.cells) zQ oZ O O (hF.cells0 hkz)) ?_);refine Md (cs:=#[J 0,I [],aQ,aQ]) hF mX O ?_;intro b7 w hb7 hF hE;have hV:=hV.alloc hE hb7;refine Ca (Uc O) (If hF oZ O O Ih ?_);intro w hF hE;have hV:=hV.store hE Da;refine Gb (Ia ?_);refine Ja (Ga ?_);refine Rc (Rf isAgg72 sizeOf72 O hF.F 4 O O) (Rc (Rf zQ oZ O hF.F 0 O O) ?_);refine Fb (ih _ (eQ _) LA PA lc pc _ _ _ _ z.cells (hF.rep hL) (hF.rep hP) (hF.rep hrz) (hop.kid (eQ _)) (hG.ext hF.same)) (Ya en_41 O O O) ?_;rintro _ w ⟨q,rfl,hRt,hE⟩;have hQ:=RX.made (ids:=(b7::([b6,b3,b2,b1]++(ids sk++ids si)))) hF.same.size (λx hx=>hF.lt_ids (by simp only[ids,jQ,List.map_cons,List.map_nil,qQ,mQ,oQ]at hx ⊢;grind)) hRt;have hF:=hF.ext hE;have hV:=hV.ext hE;clear hE hRt;refine Kh hF oX qZ O ?_;intro b8 w hb8 hF hE;have hV:=hV.alloc hE hb8;have hQ:=hQ.alloc hE hb8;refine Gb (Ia ?_);refine Ja (Ga ?_);refine Rc (Rf zQ oZ O hF.F 1 O O) (Fb (LQ z hzl _ (hG.ext hF.same)) (Ra en_74 O O) ?_);rintro _ w ⟨rfl,hE⟩;have hF:=hF.ext hE;have hV:=hV.ext hE;have hQ:=hQ.ext hE;refine Ca (Uc O) (Gb ?_);refine Ia (Za ?_);refine Ja ?_;have hqs:=Oe hQ.rep;refine Ga (Ca (Zb Cn O) ?_);refine Rc (ZK cZ O hF.F 0 O O) (Ca (Jm O) ?_);refine Ca (Ic O) (Gb ?_);refine Ia (Ng O O (λhc2=>?_) (λhc2=>?_))
    ·
     have hqn:(Ve L pick xs[j]).has=false:=by rw[<-hqs.1];simpa using hc2
     refine Wa (Eb ?_);refine Eb ?_;exact Dc ⟨(ac),(A1),(c1),(sk),(A2),(c2),(si),(vals),(by rw[Bh xs ks j hjx,hac,kidF_no hqn,qQ,qQ]),(hjx),(hK),(hI2),(hV.sub (by intro x hx;simp only[ids,jQ,List.map_cons,List.map_nil,qQ,mQ,oQ]at hx ⊢;grind)),IA,hF.drop 2⟩
    have hqh:(Ve L pick xs[j]).has=true:=by rw[<-hqs.1];simpa using hc2
    have hQv:=hqs.2.2.2.2;refine Ja (Ga ?_);refine Ca (Zb Mg O) (Rc (Wr aZ O hF.F 4 O O) ?_);refine Ca (Gq O O) (Ca (Ic O) ?_);refine Gb (Ia ?_);refine Nc O O (λhc3=>?_) (λhc3=>?_)
    ·
     have hjk:j<ks.length:=by have:=CY hop.nod hc3;omega
     refine Kd ⟨[16,18],λwq=>FR w0 [] [(b8,.cells (q.cells).toArray 39),(b7,.cells (z.cells).toArray 25),(b3,.cells #[.bool false,J 0,I [],aQ,aQ] 39),(b2,.cells #[J k,I t,.slice A ks.length c,.slice B xs.length e] 25),(b1,.cells #[.slice LA L.length lc,.slice PA pick.length pc] 72)] wq,[11,12]⟩ (bQ [0,1,2,3,4,5,6,9,10,11,12] (.alt 7 (.alt 8 (.free 15 (cQ [13,14,16] (.free 17 (.act 18 .nil)))) (.act 13 (.act 8 (.free 15 (.act 14 (.act 16 (.free 17 (.act 18 .nil)))))))) (cQ [13,7,8] (.free 15 (.act 14 (.act 16 (.free 17 (.act 18 .nil)))))))) hF ?_;intro w hF hE;have hV:=hV.ext hE;have hQ:=hQ.ext hE;refine⟨λwq=>FR w0 [] [(b8,.cells (q.cells).toArray 39),(b7,.cells (z.cells).toArray 25),(b6,.cells #[J k,I t,.slice A1 ac.1.length c1,.slice A2 ac.2.length c2] 25),(b3,.cells #[.bool false,J 0,I [],aQ,aQ] 39),(b2,.cells #[J k,I t,.slice A ks.length c,.slice B xs.length e] 25),(b1,.cells #[.slice LA L.length lc,.slice PA pick.length pc] 72)] wq,hF.mid 0 6,?_⟩;refine Cb O (Zb Af O) (Vi O (Tf wQ O C0 2 O O) ?_);refine Cb O (Zb Af O) (Vi O (Tf wQ O C0 4 O O) ?_);refine Cb O (Qb O) ?_;obtain⟨ad1,hA1,hk1,hx1⟩:=hKs.str_elem (i:=j) (hjk);refine Pa O (v:=.pointer (some (ad1.add (j*1)))) (λw hC=>Ta (i:=(j:Int)) Vm O hA1 O sX sX) (Pa O (v:=I (ks[j])) (λw hC=>Ob fZ O (hC.cell0 hk1)) ?_);refine Cb O (Zb Gc O) (Vi O (Tf xQ O C0 2 O O) ?_);refine Cb O (Zb Ce O) (O0 O (v:=.agg (q.v.cells).toArray) (λw hC=>Va (l:=q.v.cells) zQ oZ O O (hC.part 0 1 O O)) (λw hC=>Va (l:=q.v.cells) zQ oZ O O (hC.part 0 1 O O)) ?_);refine Xe ?_ ?_
     ·
      refine Ie 1 O hF (Sa (cs:=#[I (ks[j])]) bX uZ rX Oa Oa Mb) ?_;intro b9 w hb9 hF hE;have hV:=hV.alloc hE hb9;have hQ:=hQ.alloc hE hb9;refine⟨hF.mid 1 6,?_⟩;refine Xe ?_ ?_
      ·
       refine Fp [_,_,_,_,_,_,_] [sk,si] 0 (news:=[I (ks[j])]) (len':=(ac.1++[ks[j]]).length) (ys:=((ac.1++[ks[j]]).map λs=>Value.string (bs s))) O Zp hF hK O O (O) (λ_=>⟨_,O,Vb (hF.cellsAll 0 O)⟩) (by simp[Value.oneCell']) (by simp only[maxLen];omega) Da Da sX ?_;intro A2 c2 k_2 w hS2_k hF hE hnew;have hsub:∀x∈(sk).map (·.1),x∈ids sk:=λ_ h=>h;have hV:=hV.grow hE hnew (λx hx=>by have:=hsub x hx;simp[this]);have hQ:=hQ.grow hE hnew (λx hx=>by have:=hsub x hx;simp[this]);clear hsub;refine⟨hF.mid 1 6,?_⟩;refine Cb O (Zb Af O) (Ie 1 O hF (Sa (cs:=(q.v.cells).toArray) cX oZ mX Oa Oa Mb) ?_);intro b10 w hb10 hF hE;have hV:=hV.alloc hE hb10;have hQ:=hQ.alloc hE hb10;refine⟨hF.mid 2 6,?_⟩;refine Fp [_,_,_,_,_,_,_,_] [k_2,si] 1 (news:=[J (q.v.k),I (q.v.t),.slice q.v.A q.v.n q.v.c,.slice q.v.B q.v.m q.v.e]) (len':=(ac.2++[(Ve L pick xs[j]).val]).length) (ys:=vals++q.v.cells) O Mq hF hI2 O O (O) (λ_=>⟨_,O,Vb (hF.cellsAll 0 O)⟩) (by simp[Value.oneCell']) (by simp only[maxLen];omega) Da (O) sX ?_;intro A3 c3 i_3 w hS3_i hF hE hnew;have hsub:∀x∈(si).map (·.1),x∈ids si:=λ_ h=>h;have hV:=hV.grow hE hnew (λx hx=>by have:=hsub x hx;simp[this]);have hQ:=hQ.grow hE hnew (λx hx=>by have:=hsub x hx;simp[this]);clear hsub;refine⟨hF.mid 2 6,?_⟩;refine I3 (.slice _ _ _) O hF lZ O O sI4 D3 ?_;intro w hF hE;have hV:=hV.store hE Da;have hQ:=hQ.store hE Da;refine⟨hF.sub (.cons _ (.cons _ (.cons_cons _ (.cons_cons _ (.cons _ (.cons_cons _ (.cons_cons _ (.cons_cons _ (List.nil_sublist _))))))))),?_⟩;refine Cb O (Zb Gc O) (I3 (.slice _ _ _) O hF mZ O O sI4 X6 ?_);intro w hF hE;have hV:=hV.store hE Da;have hQ:=hQ.store hE Da;refine⟨hF.sub (.cons _ (.cons _ (.cons_cons _ (.cons_cons _ (.cons _ (.cons_cons _ (.cons_cons _ (.cons_cons _ (List.nil_sublist _))))))))),?_⟩
       refine Fc (Eb ?_);refine Eb ?_;exact Dc ⟨((ac.1++[ks[j]],ac.2++[(Ve L pick xs[j]).val])),(A2),(c2),(k_2),(A3),(c3),(i_3),(vals++q.v.cells),(by rw[Bh xs ks j hjx,hac,M_ hqh (by assumption),show ks.getD j []=ks[j] by simp[List.getD,hjk]]),(hjx),(hS2_k),(hS3_i),(by rw[jQ];exact (hV.append (RX.one (Oe hQ.rep).2.2.2.2)).sub (by intro x hx;simp only[ids,jQ,List.map_cons,List.map_nil,qQ,mQ,oQ]at hx ⊢;grind)),IA,hF.drop 4⟩
      refine Ie 1 O hF (Sa (cs:=(q.v.cells).toArray) cX oZ mX Oa Oa Mb) ?_;intro b11 w hb11 hF hE;have hV:=hV.alloc hE hb11;have hQ:=hQ.alloc hE hb11;refine⟨hF.mid 2 6,?_⟩;refine Fp [_,_,_,_,_,_,_,_] [sk,si] 0 (news:=[I (ks[j])]) (len':=(ac.1++[ks[j]]).length) (ys:=((ac.1++[ks[j]]).map λs=>Value.string (bs s))) O Zp hF hK O O (O) (λ_=>⟨_,O,Vb (hF.cellsAll 1 O)⟩) (by simp[Value.oneCell']) (by simp only[maxLen];omega) Da Da sX ?_;intro A4 c4 k_4 w hS4_k hF hE hnew;have hsub:∀x∈(sk).map (·.1),x∈ids sk:=λ_ h=>h;have hV:=hV.grow hE hnew (λx hx=>by have:=hsub x hx;simp[this]);have hQ:=hQ.grow hE hnew (λx hx=>by have:=hsub x hx;simp[this]);clear hsub;refine⟨hF.mid 2 6,?_⟩;refine Cb O (Zb Af O) ?_;refine Fp [_,_,_,_,_,_,_,_] [k_4,si] 1 (news:=[J (q.v.k),I (q.v.t),.slice q.v.A q.v.n q.v.c,.slice q.v.B q.v.m q.v.e]) (len':=(ac.2++[(Ve L pick xs[j]).val]).length) (ys:=vals++q.v.cells) O Mq hF hI2 O O (O) (λ_=>⟨_,O,Vb (hF.cellsAll 0 O)⟩) (by simp[Value.oneCell']) (by simp only[maxLen];omega) Da (O) sX ?_;intro A5 c5 i_5 w hS5_i hF hE hnew;have hsub:∀x∈(si).map (·.1),x∈ids si:=λ_ h=>h;have hV:=hV.grow hE hnew (λx hx=>by have:=hsub x hx;simp[this]);have hQ:=hQ.grow hE hnew (λx hx=>by have:=hsub x hx;simp[this]);clear hsub;refine⟨hF.mid 2 6,?_⟩;refine I3 (.slice _ _ _) O hF lZ O O sI4 D3 ?_;intro w hF hE;have hV:=hV.store hE Da;have hQ:=hQ.store hE Da;refine⟨hF.sub (.cons _ (.cons _ (.cons_cons _ (.cons_cons _ (.cons _ (.cons_cons _ (.cons_cons _ (.cons_cons _ (List.nil_sublist _))))))))),?_⟩;refine Cb O (Zb Gc O) (I3 (.slice _ _ _) O hF mZ O O sI4 X6 ?_);intro w hF hE;have hV:=hV.store hE Da;have hQ:=hQ.store hE Da;refine⟨hF.sub (.cons _ (.cons _ (.cons_cons _ (.cons_cons _ (.cons _ (.cons_cons _ (.cons_cons _ (.cons_cons _ (List.nil_sublist _))))))))),?_⟩
      refine Fc (Eb ?_);refine Eb ?_;exact Dc ⟨((ac.1++[ks[j]],ac.2++[(Ve L pick xs[j]).val])),(A4),(c4),(k_4),(A5),(c5),(i_5),(vals++q.v.cells),(by rw[Bh xs ks j hjx,hac,M_ hqh (by assumption),show ks.getD j []=ks[j] by simp[List.getD,hjk]]),(hjx),(hS4_k),(hS5_i),(by rw[jQ];exact (hV.append (RX.one (Oe hQ.rep).2.2.2.2)).sub (by intro x hx;simp only[ids,jQ,List.map_cons,List.map_nil,qQ,mQ,oQ]at hx ⊢;grind)),IA,hF.drop 4⟩
     refine Ie 1 O hF (Sa (cs:=(q.v.cells).toArray) cX oZ mX Oa Oa Mb) ?_;intro b12 w hb12 hF hE;have hV:=hV.alloc hE hb12;have hQ:=hQ.alloc hE hb12;refine⟨hF.mid 1 6,?_⟩;refine Ie 1 O hF (Sa (cs:=#[I (ks[j])]) bX uZ rX Oa Oa Mb) ?_;intro b13 w hb13 hF hE;have hV:=hV.alloc hE hb13;have hQ:=hQ.alloc hE hb13;refine⟨hF.mid 2 6,?_⟩;refine Fp [_,_,_,_,_,_,_,_] [sk,si] 0 (news:=[I (ks[j])]) (len':=(ac.1++[ks[j]]).length) (ys:=((ac.1++[ks[j]]).map λs=>Value.string (bs s))) O Zp hF hK O O (O) (λ_=>⟨_,O,Vb (hF.cellsAll 0 O)⟩) (by simp[Value.oneCell']) (by simp only[maxLen];omega) Da Da sX ?_;intro A6 c6 k_6 w hS6_k hF hE hnew;have hsub:∀x∈(sk).map (·.1),x∈ids sk:=λ_ h=>h;have hV:=hV.grow hE hnew (λx hx=>by have:=hsub x hx;simp[this]);have hQ:=hQ.grow hE hnew (λx hx=>by have:=hsub x hx;simp[this]);clear hsub;refine⟨hF.mid 2 6,?_⟩;refine Cb O (Zb Af O) ?_;refine Fp [_,_,_,_,_,_,_,_] [k_6,si] 1 (news:=[J (q.v.k),I (q.v.t),.slice q.v.A q.v.n q.v.c,.slice q.v.B q.v.m q.v.e]) (len':=(ac.2++[(Ve L pick xs[j]).val]).length) (ys:=vals++q.v.cells) O Mq hF hI2 O O (O) (λ_=>⟨_,O,Vb (hF.cellsAll 1 O)⟩) (by simp[Value.oneCell']) (by simp only[maxLen];omega) Da (O) sX ?_;intro A7 c7 i_7 w hS7_i hF hE hnew;have hsub:∀x∈(si).map (·.1),x∈ids si:=λ_ h=>h;have hV:=hV.grow hE hnew (λx hx=>by have:=hsub x hx;simp[this]);have hQ:=hQ.grow hE hnew (λx hx=>by have:=hsub x hx;simp[this]);clear hsub;refine⟨hF.mid 2 6,?_⟩;refine I3 (.slice _ _ _) O hF lZ O O sI4 D3 ?_;intro w hF hE;have hV:=hV.store hE Da;have hQ:=hQ.store hE Da;refine⟨hF.sub (.cons _ (.cons _ (.cons_cons _ (.cons_cons _ (.cons _ (.cons_cons _ (.cons_cons _ (.cons_cons _ (List.nil_sublist _))))))))),?_⟩;refine Cb O (Zb Gc O) (I3 (.slice _ _ _) O hF mZ O O sI4 X6 ?_)
     intro w hF hE;have hV:=hV.store hE Da;have hQ:=hQ.store hE Da;refine⟨hF.sub (.cons _ (.cons _ (.cons_cons _ (.cons_cons _ (.cons _ (.cons_cons _ (.cons_cons _ (.cons_cons _ (List.nil_sublist _))))))))),?_⟩;refine Fc (Eb ?_);refine Eb ?_;exact Dc ⟨((ac.1++[ks[j]],ac.2++[(Ve L pick xs[j]).val])),(A6),(c6),(k_6),(A7),(c7),(i_7),(vals++q.v.cells),(by rw[Bh xs ks j hjx,hac,M_ hqh (by assumption),show ks.getD j []=ks[j] by simp[List.getD,hjk]]),(hjx),(hS6_k),(hS7_i),(by rw[jQ];exact (hV.append (RX.one (Oe hQ.rep).2.2.2.2)).sub (by intro x hx;simp only[ids,jQ,List.map_cons,List.map_nil,qQ,mQ,oQ]at hx ⊢;grind)),IA,hF.drop 4⟩
    refine Ja (Ga ?_);refine Ca (Qb O) (Ca (HL O O) ?_);refine Ca (Fe O) (Jd (d:=85) O (λhg8=>?_) (λhg8=>?_))
    ·
     obtain⟨i1,hi1,hh1⟩:=hkid sX;obtain⟨ad1,cq1,hAd1,hcq1,hcf1⟩:=hL.cf_elem hi1;have hcl1:=hcf1.k;rw[hh1];refine Ca (Zb M2 O) (Rc (Tf isAgg30 O hF.F 5 O O) ?_);refine Ca (Qb O) (Ka (v:=.pointer (some (ad1.add (i1*17)))) (Ta (i:=(i1:Int)) M8 O hAd1 O sX sX) ?_);refine Ka (v:=.pointer (some ((ad1.add (i1*17)).add 1))) (Jg (a:=ad1.add (i1*17)) Y6 O) (Ka (v:=J (cq1.k)) (Ob aZ O (hF.cell0 (hcq1 1 Ib))) ?_);refine Ca (Gq O O) (Ca (Dd O O) ?_);refine Ca (Ic O) (Gb ?_);refine Ia (Nc O O (λhc4=>?_) (λhc4=>?_))
     ·
      have hqm:=(Yf hQv).2.2.2.1;obtain⟨eG,hrG,hGl_,hGc⟩:=((Yf hQv).2.2.2.2.2).slice_open (λd hd=>by rw[Ud]at hd;obtain⟨u,_,rfl⟩:=nQ.1 hd;exact Tc u);have hRG:RX w0 _ _ _ _:=hrG;have h5:0<=Ji xs[j]/\(L.getD (Ji xs[j]).toNat noC).cls=5:=by rw[hzk,hh1];exact⟨by omega,by rw[KF hi1];omega⟩
      have hil:=(TI hLs pick k [] xs[j]).1;rw[BI hqh (by assumption) h5]at hil;simp only at hil;refine Ga (Ca (Zb Gc O) ?_);refine Rc (Tf xQ O hF.F 2 O O) (Ca (Zb Ce O) ?_);refine Ca (Zb Gc O) (Rc (Tf xQ O hF.F 0 O O) ?_);refine BG [_,_,_,_,_,_] [sk,si] 1 (news:=eG) (len':=(ac.2++(Ve L pick xs[j]).val.items).length) (ys:=vals++eG) Mq hF hI2 rfl rfl (hGl_) (λhk=>by obtain⟨ad,hA,hc⟩:=hGc hk;exact⟨ad,hA,Vb hc⟩) (Fy hrG.one_) (by simp only[maxLen];omega) (by rw[dQ,<-hqm]) (rfl) sX ?_;intro A9 c9 i_9 w hS9_i hF hE hnew;have hsub:∀x∈(si).map (·.1),x∈ids si:=λ_ h=>h;have hV:=hV.grow hE hnew (λx hx=>by have:=hsub x hx;simp[this]);have hQ:=hQ.grow hE hnew (λx hx=>by have:=hsub x hx;simp[this]);have hRG:=hRG.grow hE hnew (λx hx=>by have:=hsub x hx;simp[this]);clear hsub;refine Ca (Zb Gc O) (Uo (.slice _ _ _) hF mZ O O D3 X6 ?_);intro w hF hE;have hV:=hV.store hE Da;have hQ:=hQ.store hE Da;have hRG:=hRG.store hE Da;refine Gb (Eb ?_);refine Eb ?_;exact Dc ⟨((ac.1,ac.2++(Ve L pick xs[j]).val.items)),(A1),(c1),(sk),(A9),(c9),(i_9),(vals++eG),(by rw[Bh xs ks j hjx,hac,BI hqh (by assumption) h5,qQ]),(hjx),(hK),(hS9_i),(by rw[jQ,<-Ud (Ve L pick xs[j]).val.items];exact (hV.append hRG).sub (by intro x hx;simp only[ids,jQ,List.map_cons,List.map_nil,qQ,mQ,oQ]at hx ⊢;grind)),IA,hF.drop 2⟩
     have h5n:¬(0<=Ji xs[j]/\(L.getD (Ji xs[j]).toNat noC).cls=5):=by
       rintro⟨ha,hb⟩
       first
       | (rw[hzk]at ha;omega)
       | (rw[hzk,hh1,KF hi1]at hb;omega)
     refine Ga (Ca (Zb Gc O) ?_);refine Rc (Tf xQ O hF.F 2 O O) (Ca (Zb Ce O) ?_);refine Ka (v:=.agg (q.v.cells).toArray) (Va (l:=q.v.cells) zQ oZ O O (hF.part 0 1 O O)) (Vh 1 hF (Sa (cs:=(q.v.cells).toArray) cX oZ mX Oa Oa Mb) ?_);intro b14 w hb14 hF hE;have hV:=hV.alloc hE hb14;have hQ:=hQ.alloc hE hb14;refine BG [_,_,_,_,_,_,_] [sk,si] 1 (news:=[J (q.v.k),I (q.v.t),.slice q.v.A q.v.n q.v.c,.slice q.v.B q.v.m q.v.e]) (len':=(ac.2++[(Ve L pick xs[j]).val]).length) (ys:=vals++q.v.cells) Mq hF hI2 O O (O) (λ_=>⟨_,O,Vb (hF.cellsAll 0 O)⟩) (by simp[Value.oneCell']) (by simp only[maxLen];omega) Da (O) sX ?_;intro A10 c10 i_10 w hS10_i hF hE hnew;have hsub:∀x∈(si).map (·.1),x∈ids si:=λ_ h=>h;have hV:=hV.grow hE hnew (λx hx=>by have:=hsub x hx;simp[this]);have hQ:=hQ.grow hE hnew (λx hx=>by have:=hsub x hx;simp[this]);clear hsub;refine Ca (Zb Gc O) (Uo (.slice _ _ _) hF mZ O O X6 X6 ?_);intro w hF hE;have hV:=hV.store hE Da;have hQ:=hQ.store hE Da;refine Gb (Eb ?_);refine Eb ?_;exact Dc ⟨((ac.1,ac.2++[(Ve L pick xs[j]).val])),(A1),(c1),(sk),(A10),(c10),(i_10),(vals++q.v.cells),(by rw[Bh xs ks j hjx,hac,MH hqh (by assumption) h5n,qQ]),(hjx),(hK),(hS10_i),(by rw[jQ];exact (hV.append (RX.one (Oe hQ.rep).2.2.2.2)).sub (by intro x hx;simp only[ids,jQ,List.map_cons,List.map_nil,qQ,mQ,oQ]at hx ⊢;grind)),IA,hF.drop 3⟩
    refine Qa (Qa ?_);refine Qa (Qa ?_);refine Qa (Qa ?_);refine Qa (Ca (Ae O O) ?_);refine Ca (Ic O) (Gb ?_);refine Ia (Bg O ?_);have h5n:¬(0<=Ji xs[j]/\(L.getD (Ji xs[j]).toNat noC).cls=5):=by
      rintro⟨ha,hb⟩
      first
      | (rw[hzk]at ha;omega)
      | (rw[hzk,hh1,KF hi1]at hb;omega)
    refine Ga (Ca (Zb Gc O) ?_);refine Rc (Tf xQ O hF.F 2 O O) (Ca (Zb Ce O) ?_);refine Ka (v:=.agg (q.v.cells).toArray) (Va (l:=q.v.cells) zQ oZ O O (hF.part 0 1 O O)) (Vh 1 hF (Sa (cs:=(q.v.cells).toArray) cX oZ mX Oa Oa Mb) ?_);intro b15 w hb15 hF hE;have hV:=hV.alloc hE hb15;have hQ:=hQ.alloc hE hb15;refine BG [_,_,_,_,_,_,_] [sk,si] 1 (news:=[J (q.v.k),I (q.v.t),.slice q.v.A q.v.n q.v.c,.slice q.v.B q.v.m q.v.e]) (len':=(ac.2++[(Ve L pick xs[j]).val]).length) (ys:=vals++q.v.cells) Mq hF hI2 O O (O) (λ_=>⟨_,O,Vb (hF.cellsAll 0 O)⟩) (by simp[Value.oneCell']) (by simp only[maxLen];omega) Da (O) sX ?_;intro A11 c11 i_11 w hS11_i hF hE hnew;have hsub:∀x∈(si).map (·.1),x∈ids si:=λ_ h=>h;have hV:=hV.grow hE hnew (λx hx=>by have:=hsub x hx;simp[this]);have hQ:=hQ.grow hE hnew (λx hx=>by have:=hsub x hx;simp[this]);clear hsub;refine Ca (Zb Gc O) (Uo (.slice _ _ _) hF mZ O O X6 X6 ?_);intro w hF hE;have hV:=hV.store hE Da;have hQ:=hQ.store hE Da;refine Gb (Eb ?_);refine Eb ?_;exact Dc ⟨((ac.1,ac.2++[(Ve L pick xs[j]).val])),(A1),(c1),(sk),(A11),(c11),(i_11),(vals++q.v.cells),(by rw[Bh xs ks j hjx,hac,MH hqh (by assumption) h5n,qQ]),(hjx),(hK),(hS11_i),(by rw[jQ];exact (hV.append (RX.one (Oe hQ.rep).2.2.2.2)).sub (by intro x hx;simp only[ids,jQ,List.map_cons,List.map_nil,qQ,mQ,oQ]at hx ⊢;grind)),IA,hF.drop 3⟩
   rintro σ w ⟨ac3,A3,c3,sk3,A4,c4,si3,vals3,hac3,hjx,hK3,hI3,hV3,hs,hF⟩;refine Eg.slots hs ?_;clear hs;intro σ;refine Ia (Ga ?_);refine Ca (Yl (((j+1:Nat):Int)) O O) (Ca (Qb O) ?_);refine Gb (Dc ⟨_,?_,j+1,ac3,A3,c3,sk3,A4,c4,si3,vals3,O,sX,(hac3),(hK3),(hI3),(hV3),IA,hF⟩);omega
  refine Pc (Oc O ?_);refine Ia (Ja ?_);refine Ga (Rc (Rf zQ oZ O hF.F 0 O O) ?_);refine Fb (Eh ⟨k,t,A1,ac.1.length,c1,A2,ac.2.length,c2⟩ _) (Ra Fh O O) ?_;rintro _ w ⟨rfl,hE⟩;have hF:=hF.ext hE;have hV:=hV.ext hE;refine If hF qZ O O Ct ?_;intro w hF hE;have hV:=hV.store hE Da;refine Gb (Ia ?_);refine Cc (Bc (Ua (Uf O (l:=[.bool true,J k,I t,.slice A1 ac.1.length c1,.slice A2 ac.2.length c2]) O bZ qZ O (hF.cellsAll 1 O)) ?_));obtain rfl:j=xs.length:=by omega
  have e0:Ve L pick (.node k t ks xs)=⟨true,.node k t ac.1 ac.2⟩:=by rw[Ve,if_neg (by rw[Yx];exact hc0),<-hac,List.take_length]
  rw[e0];have hkl:∀s∈ac.1,s.length<=9223372036854775807:=λs hs=>by rw[<-hac]at hs;rcases Lw _ (gQ _) s hs with h|h;(have:=hkm s h;omega);(rw[h];simp)
  refine⟨⟨true,k,t,A1,ac.1.length,c1,A2,ac.2.length,c2⟩,O,Ye (s:=⟨true,.node k t ac.1 ac.2⟩) (x:=⟨k,t,A1,ac.1.length,c1,A2,ac.2.length,c2⟩) (Rep.tree_mk ⟨by omega,by omega⟩ sX ?_ ?_),hF.same⟩
  ·exact hK.rep (pre:=[_,_,_,_]) hF (RX.strs (ids:=([b6,b3,b2,b1]++(ids sk++ids si))) hkl) Da
  rw[Ud];exact hI2.rep (pre:=[_,_,_,_]++sk) (post:=[]) (by simpa using hF) hV Da
theorem chFill_c(L:List Cf)(pick:List Int)(hlp:L.length=pick.length)(hLs:∀c∈L,CfS c)(x:Tree):KY L pick x:=Tree.ind (ST L pick hlp hLs) x
theorem kid_size{L:List Cf}(hL:∀c∈L,CfS c)(pick:List Int)(k:Int)(key:Str)(x:Tree):Pb (Zs L k key (Ji x) (Ve L pick x)).2<=Rb (Ve L pick x).val:=by
  unfold Zs;split
  ·split
   ·simp[Pb]
   split
   ·have:=Yo (Ve L pick x).val;show Pb (Ve L pick x).val.items<=_;omega
   simp[Pb]
  simp[Pb]
theorem kid_max{L:List Cf}(pick:List Int)(k:Int)(key:Str)(x:Tree){M:Nat}(h:Nd (Ve L pick x).val<=M):∀y∈(Zs L k key (Ji x) (Ve L pick x)).2,Nd y<=M:=by
  unfold Zs;split
  ·split
   ·intro y hy;rw[pQ.1 hy];exact h
   split
   ·exact Qi h
   intro y hy;rw[pQ.1 hy];exact h
  intro y hy;cases hy
theorem PW{L:List Cf}(hL:∀c∈L,CfS c)(pick:List Int)(x:Tree):Nd x<=16777216->Rb (Ve L pick x).val<=257*Rb x/\Nd (Ve L pick x).val<=16777216 :=
  Tree.ind (Q:=λx=>Nd x<=16777216->Rb (Ve L pick x).val<=257*Rb x/\Nd (Ve L pick x).val<=16777216) (λk t ks xs ih hm=>by
    by_cases h0:0<=Ji (.node k t ks xs)
    ·rw[I7 h0]
     have:=W_ hL pick (Ji (.node k t ks xs));have:=Dr (.node k t ks xs);exact⟨by omega,by omega⟩
    rw[Ve, if_neg h0];have key:∀j,j<=xs.length->Pb (Aj L pick k ks (xs.take j)).2<=257*Pb (xs.take j)/\∀y∈(Aj L pick k ks (xs.take j)).2,Nd y<=16777216:=by
      intro j
      induction j with
      | zero=>intro _;simp[Aj,Pb]
      | succ j ihj =>
        intro hj;obtain⟨h1,h2⟩:=ihj sX;have hx:xs[j]'by_Om∈xs:=eQ _;obtain⟨h3,h4⟩:=ih _ hx (Qi (x:=.node k t ks xs) hm _ hx);rw[Bh xs ks j sX];have h5:=kid_size hL pick k (ks.getD j []) (xs[j]'by_Om);have h6:Pb (xs.take (j+1))=Pb (xs.take j)+Rb (xs[j]'by_Om):=by rw[iQ sX,Be];simp[Pb]
        refine⟨by rw[Be,h6];omega,λy hy=>?_⟩;rcases mQ.1 hy with hy|hy
        ·exact h2 y hy
        exact kid_max pick k _ _ h4 y hy
    obtain⟨h1,h2⟩:=key xs.length (gQ _);rw[List.take_length]at h1 h2;refine⟨by rw[Rb,Rb];omega,?_⟩;have h7:=Bu h2;have h8:Vk (Aj L pick k ks xs).1<=16777216:=Hx λs hs=>by
      have hs':=hs;rw[<-List.take_length (l:=xs)]at hs';rcases Lw xs.length (gQ _) s hs' with h|h
      ·exact L0 (x:=.node k t ks xs) hm s h
      rw[h];simp
    have h9:=W8 (x:=.node k t ks xs) hm;simp only[Tree.text]at h9;rw[Nd];omega) x
theorem Q9{v:Tree}{L:List Cf}{pick:List Int}(h:¬(Ug v=true/\It v L pick=true)):Hs v L pick=(zeroT,1):=if_neg h
theorem Iw{v:Tree}{L:List Cf}{pick:List Int}(h:Ug v=true/\It v L pick=true):Hs v L pick=if (Ve L pick v).has=true then (if Sc (Ve L pick v).val=true then ((Ve L pick v).val,0) else (zeroT,1)) else (zeroT,8):=if_pos h
theorem QT{v:Tree}(h:Ug v=true):Zd nodeB v=true:=(Bool.and_eq_true_iff.1 h).2
theorem PZ{v:Tree}{L:List Cf}{pick:List Int}(h:It v L pick=true):L.length=pick.length:=by
  unfold It at h;rw[Bool.and_eq_true,decide_eq_true_eq]at h;exact h.1
theorem JZ(L:List Cf)(pick:List Int)(LA PA:Option Addr)(lc pc:Nat)(SL SP:Nat->Prop)(t:Tree)(x:Tv)(SX:Nat->Prop)(w0:World)(hL:Rep SL w0 (.slice (L.map XB)) [.slice LA L.length lc])(hP:Rep SP w0 (.slice (pick.map Ah)) [.slice PA pick.length pc])(hLs:∀c∈L,CfS c)(hX:Rep SX w0 (Wb t) x.cells)(hol:HolIn L.length t)(hsz:Rb t<=512)(hmx:Nd t<=16777216)(hG:Gl w0):Calls prog 18 #[.agg (x.cells).toArray,.slice LA L.length lc,.slice PA pick.length pc] w0 (Wd λv w'=>∃q:Tv,v=.tuple #[.agg q.cells.toArray,J (Hs t L pick).2]/\Rep (Btw w0 w') w' (Wb (Hs t L pick).1) q.cells/\Same [] w0 w'):=by
 refine Fa func18 O ntmps18 Ib (Pk _ _ _) ?_;have hF:=FR.start w0 [];refine Ha (Df hF O ?_);rintro b1 w hb1 hF -;refine Md (cs:=#[J 0,I [],aQ,aQ]) hF mX O ?_;rintro b2 w hb2 hF -;refine Ca (Uc O) (Jc (Ca (He O) (Ca (He O) ?_)));refine Ka (w':=w) (v:=.agg #[.slice LA L.length lc,.slice PA pick.length pc]) Mb (Kh hF zeroValue72 sizeOf72 O ?_);rintro b3 w hb3 hF -;refine Ea (Ja (Ha (Rc (Rf zQ oZ O hF.F 2 O O) ?_)));refine Hb hF (Iz t sX _ _ x.cells (hF.rep hX) (Oh _ sX) (hG.ext hF.same)) (Ra Y7 O O) ?_;intro w hF;refine Ca (Jm O) (Ca (Fe O) ?_);refine Bf (d:=16) O (λhg0=>?_) (λhg0=>?_)
 ·
  refine Qa (Qa (Qa (Qa (Ca (Dd O O) (Ea (Le O (Ha ?_)))))));refine Ka (w':=w) (v:=.agg #[J 0,I [],aQ,aQ]) Mb (If hF oZ O O Ct ?_);rintro w hF -;refine Ca (Uc O) (Ea ?_);refine Cc (Bc (Ua (Ee O (l:=[J 0,I [],aQ,aQ]) O zQ oZ O (hF.cellsAll 1 O) (v:=J 1) O) ?_));rw[Q9 (by simp_all)];exact⟨RW,O,Hk _ _,hF.same⟩
 refine Rc (Rf isAgg72 sizeOf72 O hF.F 0 O O) (Rc (Rf zQ oZ O hF.F 2 O O) ?_);refine Hb hF (goodC_c L pick LA PA lc pc _ _ t x _ _ (hF.rep hL) (hF.rep hP) (λc hc=>(hLs c hc).ok) (hF.rep hX) sX (hG.ext hF.same)) (Ya en_40 O O O) ?_;intro w hF;refine Ca (Jm O) (Ca (Ae O O) (Ea ?_));refine Ng O O (λhc0=>?_) (λhc0=>?_)
 ·
  refine Ha (Ka (w':=w) (v:=.agg #[J 0,I [],aQ,aQ]) Mb ?_);refine If hF oZ O O Ct ?_;rintro w hF -;refine Ca (Uc O) (Ea ?_);refine Cc (Bc (Ua (Ee O (l:=[J 0,I [],aQ,aQ]) O zQ oZ O (hF.cellsAll 1 O) (v:=J 1) O) ?_));rw[Q9 (by simp_all)];exact⟨RW,O,Hk _ _,hF.same⟩
 refine Wa (Ia (Ha (Rc (Rf isAgg72 sizeOf72 O hF.F 0 O O) (Rc (Rf zQ oZ O hF.F 2 O O) ?_))));have hgo:Ug t=true/\It t L pick=true:=by simp_all
 refine Fb (chFill_c L pick (PZ hgo.2) hLs t LA PA lc pc _ _ _ _ x.cells (hF.rep hL) (hF.rep hP) (hF.rep hX) ⟨hol,QT hgo.1,hsz,hmx⟩ (hG.ext hF.same)) (Ya en_41 O O O) ?_;rintro _ w ⟨y,rfl,hRt,hE⟩;have hY:=RX.made (ids:=[b3,b2,b1]) hF.same.size (λx hx=>hF.lt_ids (by simpa using hx)) hRt;have hyp:=Oe hRt;have hF:=hF.ext hE;clear hE hRt;have hfb:=PW hLs pick t hmx;refine Kh hF oX qZ O ?_;intro b4 w hb4 hF hE;have hY:=hY.alloc hE hb4;refine Ea (Ja (Za (Ha (Ca (Zb Cn O) (Rc (ZK cZ O hF.F 0 O O) (Ca (Jm O) (Ca (Ic O) (Ea ?_))))))));refine Ng O O (λhc1=>?_) (λhc1=>?_)
 ·
  refine Ha (Ka (w':=w) (v:=.agg #[J 0,I [],aQ,aQ]) Mb ?_);refine If hF oZ O O D3 ?_;intro w hF hE;have hY:=hY.store hE (by grind);refine Ca (Uc O) (Ea ?_);refine Cc (Bc (Ua (Ee O (l:=[J 0,I [],aQ,aQ]) O zQ oZ O (hF.cellsAll 2 O) (v:=J 8) O) ?_));rw[show Hs t L pick=(zeroT,8) by rw[Iw hgo,if_neg (by rw[<-hyp.1];simp_all)]];exact⟨RW,O,Hk _ _,hF.same⟩
 refine Ha (Ca (Zb Ce O) (Ka (v:=.agg (y.v.cells).toArray) (Va (l:=y.v.cells) zQ oZ O O (hF.part 0 1 O O)) ?_));refine Fb (Ay (Ve L pick t).val sX _ _ y.v.cells (Oe hY.rep).2.2.2.2 (Oh _ sX) (hG.ext hF.same)) (Ra BC O O) ?_;rintro _ w ⟨rfl,hE⟩;have hF:=hF.ext hE;have hY:=hY.ext hE;refine Ca (Jm O) (Ca (Ic O) (Ea ?_));refine Ng O O (λhc2=>?_) (λhc2=>?_)
 ·
  refine Ha (Ka (w':=w) (v:=.agg #[J 0,I [],aQ,aQ]) Mb ?_);refine If hF oZ O O D3 ?_;intro w hF hE;have hY:=hY.store hE (by grind);refine Ca (Uc O) (Ea ?_);refine Cc (Bc (Ua (Ee O (l:=[J 0,I [],aQ,aQ]) O zQ oZ O (hF.cellsAll 2 O) (v:=J 1) O) ?_));rw[show Hs t L pick=(zeroT,1) by rw[Iw hgo,if_pos (by rw[<-hyp.1];simp_all),if_neg (by simp_all)]];exact⟨RW,O,Hk _ _,hF.same⟩
 refine Wa (Eb (Ia (Ha (Ca (Zb Ce O) (Ka (v:=.agg (y.v.cells).toArray) (Va (l:=y.v.cells) zQ oZ O O (hF.part 0 1 O O)) ?_)))));refine If hF oZ O O D3 ?_;intro w hF hE;have hY:=hY.store hE (by grind);refine Ca (Uc O) (Ea ?_);refine Cc (Bc (Ua (Ee O (l:=y.v.cells) O zQ oZ O (hF.cellsAll 2 O) (v:=J 0) O) ?_));rw[show Hs t L pick=((Ve L pick t).val,0) by rw[Iw hgo,if_pos (by rw[<-hyp.1];simp_all),if_pos (by simp_all)]];have hYd:=hY.done;exact⟨y.v,O,(Oe hYd).2.2.2.2,hF.same⟩
end Go.Scarf
