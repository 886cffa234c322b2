/- A part of the proof. -/
import Derived.Test.YtgkmigdopohcnaaGreatDoorM13
set_option linter.all false
set_option maxHeartbeats 8000000
set_option maxRecDepth 10000
namespace Go.Scarf
open Go.RowKit Go.Proofs Go.Proofs.Tryz
theorem Lg{L:List Cf}{pick:List Int}{k:Int}:∀(xs:List Tree)(ks:List Str)(j:Nat)(hj:j<xs.length),
    Ii L pick k ks (xs.take (j+1))=((Ii L pick k ks (xs.take j)).1++(Ms L k (ks.getD j []) (Aj xs[j]) (Kf L pick xs[j])).1,(Ii L pick k ks (xs.take j)).2++(Ms L k (ks.getD j []) (Aj xs[j]) (Kf L pick xs[j])).2)
  | [],_,_,hj=>absurd hj Ma
  | x :: xs, ks, 0, _ => by
    simp only[List.take_succ_cons,List.take_zero,Ii,List.nil_append,qQ,List.getElem_cons_zero];cases ks <;> rfl
  | x :: xs, ks, j + 1, hj => by
    have ih:=Lg (L:=L) (pick:=pick) (k:=k) xs ks.tail j (by simpa using hj);rw[List.take_succ_cons,Ii,ih,List.take_succ_cons,Ii];have e:ks.tail.getD j []=ks.getD (j+1) []:=by cases ks <;> simp
    simp only[e,List.getElem_cons_succ,sQ]
structure CfS (c:Cf):Prop where
  rig:CfR c
  b:Qb c.b.val<=256/\Be c.b.val<=16777216
  l:Qb c.l.val<=256/\Be c.l.val<=16777216
  r:Qb c.r.val<=256/\Be c.r.val<=16777216
theorem CfS.ok{c:Cf}(h:CfS c):CfOk c:=⟨⟨by have:=h.b;omega,Ln _ (by have:=h.b;omega)⟩,⟨by have:=h.l;omega,Ln _ (by have:=h.l;omega)⟩,⟨by have:=h.r;omega,Ln _ (by have:=h.r;omega)⟩⟩
theorem C6{s:Sd}(h:SdR s):Mk s=s:=by
  rcases h with rfl|⟨h1,h2⟩
  ·rfl
  unfold Mk;rw[if_pos h1,XL h2,<-h1]
theorem WI{c:Cf}(h:CfS c)(pk:Int):Qb (Qj c pk).1.val<=256/\Be (Qj c pk).1.val<=16777216:=by
  obtain⟨r1,r2,r3,-⟩:=h.rig;unfold Qj;split
  ·rw[C6 r1];exact h.b
  split
  ·rw[C6 r2];exact h.l
  split
  ·rw[C6 r3];exact h.r
  simp[noS,zeroT,Qb,Dc,Be,Rm,Pm]
theorem M7{L:List Cf}(h:∀c∈L,CfS c)(pick:List Int)(i:Int):Qb (Bt L pick i).val<=256/\Be (Bt L pick i).val<=16777216:=by
  unfold Bt;by_cases hi:i.toNat<L.length
  ·have e : L.getD i.toNat noC = L[i.toNat] := by simp[List.getD, hi]
   rw[e];exact WI (h _ (eQ _)) _
  have e : L.getD i.toNat noC = noC := by simp[List.getD, Nat.not_lt.1 hi]
  rw[e];unfold Qj;have z:Mk noC.b=noS/\Mk noC.l=noS/\Mk noC.r=noS:=⟨rfl,rfl,rfl⟩;rw[z.1,z.2.1,z.2.2];split <;> (try split) <;> (try split) <;> simp[noS,zeroT,Qb,Dc,Be,Rm,Pm]
theorem L4{L:List Cf}{pick:List Int}{x:Tree}(h:0<=Aj x):Kf L pick x=Bt L pick (Aj x):=by cases x;rw[Kf,if_pos h]
theorem VF{L:List Cf}(hL:∀c∈L,CfS c)(pick:List Int)(k:Int)(key:Str)(x:Tree):(Ms L k key (Aj x) (Kf L pick x)).2.length<=256/\(Ms L k key (Aj x) (Kf L pick x)).1.length<=1:=by
  unfold Ms;split
  ·split
   ·simp
   split
   ·rename_i h5
    rw[L4 h5.1];have h1:=(M7 hL pick (Aj x)).1;have h2:=Ox (Bt L pick (Aj x)).val;have h3:=Vm (Bt L pick (Aj x)).val.items;refine⟨?_,by simp⟩;show (Bt L pick (Aj x)).val.items.length<=256;omega
   simp
  simp
theorem I7{L:List Cf}(hL:∀c∈L,CfS c)(pick:List Int)(k:Int)(ks:List Str)(xs:List Tree):∀j,j<=xs.length->(Ii L pick k ks (xs.take j)).2.length<=256*j/\(Ii L pick k ks (xs.take j)).1.length<=j
  | 0,_=>by simp[Ii]
  | j + 1, hj => by
    have ih:=I7 hL pick k ks xs j Aa;have h1:=VF hL pick k (ks.getD j []) (xs[j]' Aa);rw[Lg xs ks j Aa];simp only[dQ];omega
theorem Vu{L:List Cf}{pick:List Int}{k:Int}{ks:List Str}{xs:List Tree}:∀j,j<=xs.length->∀s∈(Ii L pick k ks (xs.take j)).1,s∈ks\/s=[]
  | 0,_=>λs hs=>by simp[Ii]at hs
  | j + 1, hj => λs hs => by
    rw[Lg xs ks j Aa]at hs;rcases mQ.1 hs with hs|hs
    ·exact Vu j Aa s hs
    have:s=ks.getD j []:=by
      unfold Ms at hs;split at hs
      ·split at hs
       ·simpa using hs
       split at hs <;> simp at hs
      simp at hs
    rw[this];by_cases hjk:j<ks.length
    ·left;simp[List.getD,hjk]
    right;simp[List.getD,Nat.not_lt.1 hjk]
def HolIn(n:Nat)(x:Tree):Prop:=∀t∈Ng x,∃i,i<n/\i<1000/\t=Sp i
theorem GN{n:Nat}{k:Int}{t:Str}{ks:List Str}{xs:List Tree}(h:HolIn n (.node k t ks xs))(h0:0<=Ir k t):∃i,i<n/\Ir k t=(i:Int):=by
  by_cases hk:k=7
  ·obtain⟨i, hi, hi2, e⟩ := h t (by rw[Ng, if_pos hk];simp)
   refine⟨i,hi,?_⟩;have:=PK hi2;rw[e,hk];exact this
  have : Ir k t = -1 := if_pos hk;omega
theorem HolIn.kid{n:Nat}{k:Int}{t:Str}{ks:List Str}{xs:List Tree}(h:HolIn n (.node k t ks xs)){x:Tree}(hx:x∈xs):HolIn n x:=λs hs=>h s (by
  rw[Ng,Ko];exact List.mem_append_right _ (List.mem_flatMap.2 ⟨x,hx,hs⟩))
structure OpT (n:Nat) (x:Tree):Prop where
  hol:HolIn n x
  nod:Xc nodeB x=true
  sz:Qb x<=512
  mx:Be x<=16777216
theorem OpT.kid{n:Nat}{k:Int}{t:Str}{ks:List Str}{xs:List Tree}(h:OpT n (.node k t ks xs)){x:Tree}(hx:x∈xs):OpT n x :=
  ⟨h.hol.kid hx,(Ee h.nod).2 x hx,by have:=h.sz;have:=Ug hx;rw[Qb]at *;omega,by have:=h.mx;have:=Oj hx;rw[Be]at *;omega⟩
theorem GD{L:List Cf}{i:Nat}(h:i<L.length):L.getD ((i:Nat):Int).toNat noC=L[i]:=by simp[List.getD,h]
theorem kidF_no{L:List Cf}{k:Int}{key:Str}{h:Int}{s:Sd}(hs:s.has=false):Ms L k key h s=([],[]):=by unfold Ms;rw[if_neg (by rw[hs];decide)]
theorem J7{L:List Cf}{k:Int}{key:Str}{h:Int}{s:Sd}(hs:s.has=true)(hk:k=6):Ms L k key h s=([key],[s.val]):=by unfold Ms;rw[if_pos hs,if_pos hk]
theorem BI{L:List Cf}{k:Int}{key:Str}{h:Int}{s:Sd}(hs:s.has=true)(hk:¬k=6)(h5:0<=h/\(L.getD h.toNat noC).cls=5):Ms L k key h s=([],s.val.items):=by unfold Ms;rw[if_pos hs,if_neg hk,if_pos h5]
theorem HH{L:List Cf}{k:Int}{key:Str}{h:Int}{s:Sd}(hs:s.has=true)(hk:¬k=6)(h5:¬(0<=h/\(L.getD h.toNat noC).cls=5)):Ms L k key h s=([],[s.val]):=by unfold Ms;rw[if_pos hs,if_neg hk,if_neg h5]
def DZ(L:List Cf)(pick:List Int)(x:Tree):Prop:=∀(LA PA:Option Addr)(lc pc:Nat)(SL SP S:Nat->Prop)(w0:World)(cs:List Value),Rep SL w0 (.slice (L.map L8)) [.slice LA L.length lc]->Rep SP w0 (.slice (pick.map Mi)) [.slice PA pick.length pc]->Rep S w0 (Pb x) cs->OpT L.length x->Gl w0 ->
  Calls prog 73 #[.agg #[.slice LA L.length lc,.slice PA pick.length pc],.agg cs.toArray] w0 (Dd λv w'=>∃y:Sv,v=.agg y.cells.toArray/\Rep (Btw w0 w') w' (Ve (Kf L pick x)) y.cells/\Same [] w0 w')
theorem L7{M:Nat}{x:Tree}(h:Be x<=M):x.text.length<=M:=by
  cases x with
  | node k t ks xs=>rw[Be]at h;show t.length<=M;omega
theorem AW{k:Int}{t:Str}{ks:List Str}{xs:List Tree}(h:Xc nodeB (.node k t ks xs)=true)(hk:k=6):ks.length=xs.length:=by
  have h1:=(Ee h).1;subst hk;unfold nodeB at h1;simp at h1;have h2:=h1.1;unfold Sl at h2;simp at h2;omega
theorem PR(L:List Cf)(pick:List Int)(hlp:L.length=pick.length)(hLs:∀c∈L,CfS c)(k:Int)(t:Str)(ks:List Str)(xs:List Tree)(ih:∀x,x∈xs->DZ L pick x):DZ L pick (.node k t ks xs):=by
  intro LA PA lc pc SL SP S w0 cs hL hP hR hop hG;obtain⟨A,c,B,e,rfl,hk0,ht0,hKs,hX⟩:=hR.tree_inv;have hXl:=hX.slice_len;have hLl:=hL.slice_len;have hPl:=hP.slice_len;simp only[rQ]at hLl hPl;have hsz:=hop.sz;rw[Qb]at hsz;have hxn:=Vm xs;have htm:=L7 hop.mx;have htl:t.length<=140737488355328:=by simp only[Tree.text]at htm;omega
  have hkm:∀s∈ks,s.length<=16777216:=AF hop.mx;refine Ia func73 O ntmps73 Eb (Pc _ _) ?_;have hF:=FR.start w0 [];refine Ga (Ha ?_);refine Oe hF O ?_;intro b1 w hb1 hF hE;refine Oe hF O ?_;intro b2 w hb2 hF hE;refine Wc (cs:=#[.bool false,J 0,I [],aQ,aQ]) hF mX O ?_;intro b3 w hb3 hF hE;refine Ta (Fa ?_);refine Ga (Ga ?_);refine Ha (Zb (Of aZ nZ O hF.F 1 O O) ?_);refine Oa hF (JP ⟨k,t,A,ks.length,c,B,xs.length,e⟩ htl _ (hG.ext hF.same)) (Na XT O O) ?_;intro w hF;refine Ba (Gb O) (Ta ?_);refine Fa (Ga ?_);refine Ha (Ba (Za O) ?_);refine Ba (Nw O O) (Ta ?_);refine Fa (Ib O O (λhc0=>?_) (λhc0=>?_))
  ·
   have hc0i:=hc0;obtain⟨i0,hi0,hhx⟩:=GN hop.hol hc0;have hi0p:i0<pick.length:=by omega
   obtain⟨ad0,cq0,hAd0,hcq0,hcf0⟩:=hL.cf_elem hi0;rw[hhx];refine Ga (Md (zs:=.of []) (bQ [0,1,2,3,4,5,6,7,8,9] (.alt 10 (bQ [11,12,13] (.act 14 (.act 15 (.free 16 .nil)))) (.act 14 (.act 10 (bQ [11,12,13] (.act 15 (.free 16 .nil))))))) hF ?_);intro w hF;refine Jb O (Ob Bv O) (Fg O (Xe isAgg58 O C0 2 O O) ?_);refine Jb O (Za O) (Cb O (v:=.pointer (some (ad0.add (i0*17)))) (λw hC=>Sa (i:=(i0:Int)) Kz O hAd0 O Aa Aa) ?_);refine Cb O (v:=.agg #[.slice cq0.A cq0.n cq0.c,J (cq0.k),.bool (cq0.x.h),J (cq0.x.v.k),I (cq0.x.v.t),.slice cq0.x.v.A cq0.x.v.n cq0.x.v.c,.slice cq0.x.v.B cq0.x.v.m cq0.x.v.e,.bool (cq0.y.h),J (cq0.y.v.k),I (cq0.y.v.t),.slice cq0.y.v.A cq0.y.v.n cq0.y.v.c,.slice cq0.y.v.B cq0.y.v.m cq0.y.v.e,.bool (cq0.z.h),J (cq0.z.v.k),I (cq0.z.v.t),.slice cq0.z.v.A cq0.z.v.n cq0.z.v.c,.slice cq0.z.v.B cq0.z.v.m cq0.z.v.e]) (λw hC=>Wa (l:=cq0.cells) dZ pZ O O (hC.cells0 hcq0)) (Jb O (Ob R4 O) ?_);refine Fg O (Xe isAgg54 O C0 2 O O) (Jb O (Za O) ?_);obtain⟨ad0,hA0,hk0,hx0⟩:=hP.int_elem (i:=i0) (hi0p);refine Cb O (v:=.pointer (some (ad0.add (i0*1)))) (λw hC=>Sa (i:=(i0:Int)) CA O hA0 O Aa Aa) (Cb O (v:=J (pick[i0])) (λw hC=>Qd eZ O (hC.cell0 hk0)) ?_);refine Ky ?_ ?_
   ·
    refine Pd O (Ws L[i0] cq0 pick[i0] _ _ (hcf0.ext hF.same) (hLs _ (eQ _)).ok (hG.ext hF.same)) (Xa PB O O O) ?_;rintro _ w ⟨y,rfl,hRt,hE⟩;have hY:=RX.made (ids:=[b3,b2,b1]) hF.same.size (λx hx=>hF.lt_ids (by simpa using hx)) hRt;have hF:=hF.ext hE;clear hE hRt;refine⟨hF,?_⟩;refine Jb O (Qk O) (Jb O (Iw O O) ?_);refine Jb O (Ao O O) (It O (v:=λb=>V b) (o:=.cells #[.bool false,J 0,I [],aQ,aQ] 27) hF (Qi mX) ?_);intro b4 w hb4 hF hE;have hY:=hY.alloc hE hb4;refine⟨hF.drop 1,?_⟩;refine On O hF oZ O O Zg ?_;intro w hF hE;have hY:=hY.store hE (by grind);refine⟨hF.drop 1,?_⟩;refine Jb O (Db O) (Hc ?_);refine Fa (Ga ?_);refine Ha (Zb (Of cZ oZ O hF.F 0 O O) ?_);refine Ie hF oZ O O Js ?_;intro w hF hE;have hY:=hY.store hE (by grind);refine Ta (Fa ?_);refine Va (Ua (Ja (Vi O (l:=y.cells) O cZ oZ O (hF.cellsAll 1 O)) ?_));have e0:Kf L pick (.node k t ks xs)=(Qj L[i0] pick[i0]).1:=by rw[L4 (by rw[Bw];exact hc0i),Bw];show Bt L pick (Ir k t)=_;rw[hhx];unfold Bt;simp[List.getD,hi0,hi0p]
    rw[e0];exact⟨y,O,hY.done,hF.same⟩
   refine It O (v:=λb=>V b) (o:=.cells #[.bool false,J 0,I [],aQ,aQ] 27) hF (Qi mX) ?_;intro b5 w hb5 hF hE;refine⟨hF.drop 1,?_⟩;refine Pd O (Ws L[i0] cq0 pick[i0] _ _ (hcf0.ext hF.same) (hLs _ (eQ _)).ok (hG.ext hF.same)) (Xa PB O O O) ?_;rintro _ w ⟨y,rfl,hRt,hE⟩;have hY:=RX.made (ids:=[b5,b3,b2,b1]) hF.same.size (λx hx=>hF.lt_ids (by simpa using hx)) hRt;have hF:=hF.ext hE;clear hE hRt;refine⟨hF.drop 1,?_⟩;refine Jb O (Qk O) (Jb O (Iw O O) ?_);refine Jb O (Ao O O) (On O hF oZ O O Zg ?_);intro w hF hE;have hY:=hY.store hE (by grind);refine⟨hF.drop 1,?_⟩;refine Jb O (Db O) (Hc ?_);refine Fa (Ga ?_);refine Ha (Zb (Of cZ oZ O hF.F 0 O O) ?_);refine Ie hF oZ O O Js ?_;intro w hF hE;have hY:=hY.store hE (by grind);refine Ta (Fa ?_);refine Va (Ua (Ja (Vi O (l:=y.cells) O cZ oZ O (hF.cellsAll 1 O)) ?_));have e0:Kf L pick (.node k t ks xs)=(Qj L[i0] pick[i0]).1:=by rw[L4 (by rw[Bw];exact hc0i),Bw];show Bt L pick (Ir k t)=_;rw[hhx];unfold Bt;simp[List.getD,hi0,hi0p]
   rw[e0];exact⟨y,O,hY.done,hF.same⟩
  refine La (Fa ?_);refine Ga (Ha ?_);refine Ba (Ob Xd O) (Zb (Th eZ O hF.F 1 O O) ?_);refine Ba (Ob Wd O) (Zb (Pk jZ O hF.F 1 O O) ?_);refine Ka (w':=w) (v:=.agg #[J k,I t,aQ,aQ]) Ub (Gg hF lX nZ O ?_);intro b6 w hb6 hF hE;refine Ta (Fa ?_);refine Ga (Ga ?_);refine Ha (Ba (Ob Xb O) ?_);refine Zb (Xe zQ O hF.F 2 O O) (Ba (Ch zZ O) ?_);refine Ba (Za O) (Ta ?_);refine Fa (Qa ?_);refine Jc (λμ σ w=>∃(j:Nat),∃(ac:List Str × List Tree),∃(A1:Option Addr),∃(c1:Nat),∃(sk:List (Nat × Obj)),∃(A2:Option Addr),∃(c2:Nat),∃(si:List (Nat × Obj)),∃(vals:List Value),μ=xs.length-j/\(j<=xs.length)/\(Ii L pick k ks (xs.take j)=ac)/\(SlB 9 1 A1 ac.1.length c1 (ac.1.map λs=>Value.string (bs s)) sk)/\(SlB 25 4 A2 ac.2.length c2 vals si)/\(RX w0 ([b6,b3,b2,b1]++(ids sk++ids si)) w (ac.2.map Pb) vals)/\AllEq σ [(2,V b1),(3,V b2),(4,V b3),(8,V b6),(38,.slice B xs.length e),(39,J ((xs.length:Nat))),(40,J ((j:Int)))]/\FR w0 [] ([(b6,.cells #[J k,I t,.slice A1 ac.1.length c1,.slice A2 ac.2.length c2] 25),(b3,.cells #[.bool false,J 0,I [],aQ,aQ] 27),(b2,.cells #[J k,I t,.slice A ks.length c,.slice B xs.length e] 25),(b1,.cells #[.slice LA L.length lc,.slice PA pick.length pc] 111)]++(sk++(si++[]))) w) _ ⟨0,([],[]),none,0,[],none,0,[],[],O,(Nat.zero_le _),(by simp[Ii]),(SlB.nil _ _),(SlB.nil _ _),(RX.nil),M4,hF⟩ ?_;rintro μ σ w ⟨j,ac,A1,c1,sk,A2,c2,si,vals,rfl,hj,hac,hK,hI2,hV,hs,hF⟩;refine Cg.slots hs ?_;clear hs;intro σ;have hfl:=I7 hLs pick k ks xs j hj;rw[hac]at hfl;refine Ga (Ha ?_);refine Ba (Di O O) (Ta ?_);refine Fa (Ga ?_);refine Ib O O (λhc1=>?_) (λhc1=>?_)
  ·
   refine La (Fa ?_);refine Ga (Bf (λσ w=>∃(ac3:List Str × List Tree),∃(A3:Option Addr),∃(c3:Nat),∃(sk3:List (Nat × Obj)),∃(A4:Option Addr),∃(c4:Nat),∃(si3:List (Nat × Obj)),∃(vals3:List Value),(Ii L pick k ks (xs.take (j+1))=ac3)/\(j<xs.length)/\(SlB 9 1 A3 ac3.1.length c3 (ac3.1.map λs=>Value.string (bs s)) sk3)/\(SlB 25 4 A4 ac3.2.length c4 vals3 si3)/\(RX w0 ([b6,b3,b2,b1]++(ids sk3++ids si3)) w (ac3.2.map Pb) vals3)/\AllEq σ [(2,V b1),(3,V b2),(4,V b3),(8,V b6),(38,.slice B xs.length e),(39,J ((xs.length:Nat))),(40,J ((j:Int)))]/\FR w0 [] ([(b6,.cells #[J k,I t,.slice A3 ac3.1.length c3,.slice A4 ac3.2.length c4] 25),(b3,.cells #[.bool false,J 0,I [],aQ,aQ] 27),(b2,.cells #[J k,I t,.slice A ks.length c,.slice B xs.length e] 25),(b1,.cells #[.slice LA L.length lc,.slice PA pick.length pc] 111)]++(sk3++(si3++[]))) w) ?_ ?_)
   ·
    refine Qa (Ga ?_);have hjx:j<xs.length:=by omega
    obtain⟨adz,cz,hAz,hlz,hkz,hrz⟩:=hX.tree_elem hjx;obtain⟨z,rfl,-⟩:=Bj hrz;have hzp:=Ck hrz;have hzk:Aj xs[j]=Ir z.k z.t:=by rw[Bw,hzp.1,hzp.2.1]
    have hzm:=L7 (hop.kid (List.getElem_mem (l:=xs) hjx)).mx;have hzl:z.t.length<=140737488355328:=by rw[hzp.2.1];omega
    have hkid:0<=Ir z.k z.t->∃i,i<L.length/\Ir z.k z.t=(i:Int):=λh=>by rw[hzp.1,hzp.2.1]at h ⊢;have h9:=(hop.kid (List.getElem_mem (l:=xs) hjx)).hol;revert h h9;generalize xs[j]=u;intro h h9;cases u;exact GN h9 h
    skip
    refine Ha (Ba (Za O) ?_);refine Ka (v:=.pointer (some (adz.add (j*4)))) (Sa (i:=(j:Int)) Hg O hAz O Aa Aa) (Ka (v:=.agg (z.cells).toArray) (Wa (l:=z.cells) aZ nZ O O (hF.cells0 hkz)) ?_);refine Wc (cs:=#[J 0,I [],aQ,aQ]) hF lX O ?_;intro b7 w hb7 hF hE;have hV:=hV.alloc hE hb7;refine Ba (Gb O) (Ie hF nZ O O Zg ?_);intro w hF hE;have hV:=hV.store hE Ma;refine Ta (Fa ?_);refine Ga (Ha ?_);refine Zb (Of isAgg111 sizeOf111 O hF.F 4 O O) (Zb (Of aZ nZ O hF.F 0 O O) ?_);refine Lb (ih _ (eQ _) LA PA lc pc _ _ _ _ z.cells (hF.rep hL) (hF.rep hP) (hF.rep hrz) (hop.kid (eQ _)) (hG.ext hF.same)) (Xa en_73 O O O) ?_;rintro _ w ⟨q,rfl,hRt,hE⟩;have hQ:=RX.made (ids:=(b7::([b6,b3,b2,b1]++(ids sk++ids si)))) hF.same.size (λx hx=>hF.lt_ids (by simp only[ids,jQ,List.map_cons,List.map_nil,qQ,mQ,oQ]at hx ⊢;grind)) hRt;have hF:=hF.ext hE;have hV:=hV.ext hE;clear hE hRt;refine Gg hF mX oZ O ?_;intro b8 w hb8 hF hE;have hV:=hV.alloc hE hb8;have hQ:=hQ.alloc hE hb8;refine Ta (Fa ?_);refine Ga (Ha ?_);refine Zb (Of aZ nZ O hF.F 1 O O) (Lb (JP z hzl _ (hG.ext hF.same)) (Na XT O O) ?_);rintro _ w ⟨rfl,hE⟩;have hF:=hF.ext hE;have hV:=hV.ext hE;have hQ:=hQ.ext hE;refine Ba (Gb O) (Ta ?_);refine Fa (Qa ?_);refine Ga ?_;have hqs:=Se hQ.rep;refine Ha (Ba (Ob Qh O) ?_);refine Zb (N3 fZ O hF.F 0 O O) (Ba (Si O) ?_);refine Ba (Db O) (Ta ?_);refine Fa (Le O O (λhc2=>?_) (λhc2=>?_))
    ·
     have hqn:(Kf L pick xs[j]).has=false:=by rw[<-hqs.1];simpa using hc2
     refine La (Bb ?_);refine Bb ?_;exact Hb ⟨(ac),(A1),(c1),(sk),(A2),(c2),(si),(vals),(by rw[Lg xs ks j hjx,hac,kidF_no hqn,qQ,qQ]),(hjx),(hK),(hI2),(hV.sub (by intro x hx;simp only[ids,jQ,List.map_cons,List.map_nil,qQ,mQ,oQ]at hx ⊢;grind)),M4,hF.drop 2⟩
    have hqh:(Kf L pick xs[j]).has=true:=by rw[<-hqs.1];simpa using hc2
    have hQv:=hqs.2.2.2.2;refine Ga (Ha ?_);refine Ba (Ob Xd O) (Zb (Th eZ O hF.F 4 O O) ?_);refine Ba (Qf O O) (Ba (Db O) ?_);refine Ta (Fa ?_);refine Ib O O (λhc3=>?_) (λhc3=>?_)
    ·
     have hjk:j<ks.length:=by have:=AW hop.nod hc3;omega
     refine Ke ⟨[16,18],λwq=>FR w0 [] [(b8,.cells (q.cells).toArray 27),(b7,.cells (z.cells).toArray 25),(b3,.cells #[.bool false,J 0,I [],aQ,aQ] 27),(b2,.cells #[J k,I t,.slice A ks.length c,.slice B xs.length e] 25),(b1,.cells #[.slice LA L.length lc,.slice PA pick.length pc] 111)] wq,[11,12]⟩ (bQ [0,1,2,3,4,5,6,9,10,11,12] (.alt 7 (.alt 8 (.free 15 (cQ [13,14,16] (.free 17 (.act 18 .nil)))) (.act 13 (.act 8 (.free 15 (.act 14 (.act 16 (.free 17 (.act 18 .nil)))))))) (cQ [13,7,8] (.free 15 (.act 14 (.act 16 (.free 17 (.act 18 .nil)))))))) hF ?_;intro w hF hE;have hV:=hV.ext hE;have hQ:=hQ.ext hE;refine⟨λwq=>FR w0 [] [(b8,.cells (q.cells).toArray 27),(b7,.cells (z.cells).toArray 25),(b6,.cells #[J k,I t,.slice A1 ac.1.length c1,.slice A2 ac.2.length c2] 25),(b3,.cells #[.bool false,J 0,I [],aQ,aQ] 27),(b2,.cells #[J k,I t,.slice A ks.length c,.slice B xs.length e] 25),(b1,.cells #[.slice LA L.length lc,.slice PA pick.length pc] 111)] wq,hF.mid 0 6,?_⟩;refine Jb O (Ob Td O) (Fg O (Xe yQ O C0 2 O O) ?_);refine Jb O (Ob Td O) (Fg O (Xe yQ O C0 4 O O) ?_);refine Jb O (Za O) ?_;obtain⟨ad1,hA1,hk1,hx1⟩:=hKs.str_elem (i:=j) (hjk);refine Cb O (v:=.pointer (some (ad1.add (j*1)))) (λw hC=>Sa (i:=(j:Int)) Ip O hA1 O Aa Aa) (Cb O (v:=I (ks[j])) (λw hC=>Qd jZ O (hC.cell0 hk1)) ?_);refine Jb O (Ob Xb O) (Fg O (Xe zQ O C0 2 O O) ?_);refine Jb O (Ob Ag O) (Ns O (v:=.agg (q.v.cells).toArray) (λw hC=>Wa (l:=q.v.cells) aZ nZ O O (hC.part 0 1 O O)) (λw hC=>Wa (l:=q.v.cells) aZ nZ O O (hC.part 0 1 O O)) ?_);refine Ky ?_ ?_
     ·
      refine Kg 1 O hF (Nb (cs:=#[I (ks[j])]) yZ sZ qX Ab Ab Ub) ?_;intro b9 w hb9 hF hE;have hV:=hV.alloc hE hb9;have hQ:=hQ.alloc hE hb9;refine⟨hF.mid 1 6,?_⟩;refine Ky ?_ ?_
      ·
       refine Pp [_,_,_,_,_,_,_] [sk,si] 0 (news:=[I (ks[j])]) (len':=(ac.1++[ks[j]]).length) (ys:=((ac.1++[ks[j]]).map λs=>Value.string (bs s))) O ZE hF hK O O (O) (λ_=>⟨_,O,Vd (hF.cellsAll 0 O)⟩) (by simp[Value.oneCell']) (by simp only[maxLen];omega) Ma Ma Aa ?_;intro A2 c2 k_2 w hS2_k hF hE hnew;have hsub:∀x∈(sk).map (·.1),x∈ids sk:=λ_ h=>h;have hV:=hV.grow hE hnew (λx hx=>by have:=hsub x hx;simp[this]);have hQ:=hQ.grow hE hnew (λx hx=>by have:=hsub x hx;simp[this]);clear hsub;refine⟨hF.mid 1 6,?_⟩;refine Jb O (Ob Td O) (Kg 1 O hF (Nb (cs:=(q.v.cells).toArray) zZ nZ lX Ab Ab Ub) ?_);intro b10 w hb10 hF hE;have hV:=hV.alloc hE hb10;have hQ:=hQ.alloc hE hb10;refine⟨hF.mid 2 6,?_⟩;refine Pp [_,_,_,_,_,_,_,_] [k_2,si] 1 (news:=[J (q.v.k),I (q.v.t),.slice q.v.A q.v.n q.v.c,.slice q.v.B q.v.m q.v.e]) (len':=(ac.2++[(Kf L pick xs[j]).val]).length) (ys:=vals++q.v.cells) O Dt hF hI2 O O (O) (λ_=>⟨_,O,Vd (hF.cellsAll 0 O)⟩) (by simp[Value.oneCell']) (by simp only[maxLen];omega) Ma (O) Aa ?_;intro A3 c3 i_3 w hS3_i hF hE hnew;have hsub:∀x∈(si).map (·.1),x∈ids si:=λ_ h=>h;have hV:=hV.grow hE hnew (λx hx=>by have:=hsub x hx;simp[this]);have hQ:=hQ.grow hE hnew (λx hx=>by have:=hsub x hx;simp[this]);clear hsub;refine⟨hF.mid 2 6,?_⟩;refine Q8 (.slice _ _ _) O hF sizeOf22 O O UT Iz ?_;intro w hF hE;have hV:=hV.store hE Ma;have hQ:=hQ.store hE Ma;refine⟨hF.sub (.cons _ (.cons _ (.cons_cons _ (.cons_cons _ (.cons _ (.cons_cons _ (.cons_cons _ (.cons_cons _ (List.nil_sublist _))))))))),?_⟩;refine Jb O (Ob Xb O) (Q8 (.slice _ _ _) O hF mZ O O UT R6 ?_);intro w hF hE;have hV:=hV.store hE Ma;have hQ:=hQ.store hE Ma;refine⟨hF.sub (.cons _ (.cons _ (.cons_cons _ (.cons_cons _ (.cons _ (.cons_cons _ (.cons_cons _ (.cons_cons _ (List.nil_sublist _))))))))),?_⟩
       refine Hc (Bb ?_);refine Bb ?_;exact Hb ⟨((ac.1++[ks[j]],ac.2++[(Kf L pick xs[j]).val])),(A2),(c2),(k_2),(A3),(c3),(i_3),(vals++q.v.cells),(by rw[Lg xs ks j hjx,hac,J7 hqh (by assumption),show ks.getD j []=ks[j] by simp[List.getD,hjk]]),(hjx),(hS2_k),(hS3_i),(by rw[jQ];exact (hV.append (RX.one (Se hQ.rep).2.2.2.2)).sub (by intro x hx;simp only[ids,jQ,List.map_cons,List.map_nil,qQ,mQ,oQ]at hx ⊢;grind)),M4,hF.drop 4⟩
      refine Kg 1 O hF (Nb (cs:=(q.v.cells).toArray) zZ nZ lX Ab Ab Ub) ?_;intro b11 w hb11 hF hE;have hV:=hV.alloc hE hb11;have hQ:=hQ.alloc hE hb11;refine⟨hF.mid 2 6,?_⟩;refine Pp [_,_,_,_,_,_,_,_] [sk,si] 0 (news:=[I (ks[j])]) (len':=(ac.1++[ks[j]]).length) (ys:=((ac.1++[ks[j]]).map λs=>Value.string (bs s))) O ZE hF hK O O (O) (λ_=>⟨_,O,Vd (hF.cellsAll 1 O)⟩) (by simp[Value.oneCell']) (by simp only[maxLen];omega) Ma Ma Aa ?_;intro A4 c4 k_4 w hS4_k hF hE hnew;have hsub:∀x∈(sk).map (·.1),x∈ids sk:=λ_ h=>h;have hV:=hV.grow hE hnew (λx hx=>by have:=hsub x hx;simp[this]);have hQ:=hQ.grow hE hnew (λx hx=>by have:=hsub x hx;simp[this]);clear hsub;refine⟨hF.mid 2 6,?_⟩;refine Jb O (Ob Td O) ?_;refine Pp [_,_,_,_,_,_,_,_] [k_4,si] 1 (news:=[J (q.v.k),I (q.v.t),.slice q.v.A q.v.n q.v.c,.slice q.v.B q.v.m q.v.e]) (len':=(ac.2++[(Kf L pick xs[j]).val]).length) (ys:=vals++q.v.cells) O Dt hF hI2 O O (O) (λ_=>⟨_,O,Vd (hF.cellsAll 0 O)⟩) (by simp[Value.oneCell']) (by simp only[maxLen];omega) Ma (O) Aa ?_;intro A5 c5 i_5 w hS5_i hF hE hnew;have hsub:∀x∈(si).map (·.1),x∈ids si:=λ_ h=>h;have hV:=hV.grow hE hnew (λx hx=>by have:=hsub x hx;simp[this]);have hQ:=hQ.grow hE hnew (λx hx=>by have:=hsub x hx;simp[this]);clear hsub;refine⟨hF.mid 2 6,?_⟩;refine Q8 (.slice _ _ _) O hF sizeOf22 O O UT Iz ?_;intro w hF hE;have hV:=hV.store hE Ma;have hQ:=hQ.store hE Ma;refine⟨hF.sub (.cons _ (.cons _ (.cons_cons _ (.cons_cons _ (.cons _ (.cons_cons _ (.cons_cons _ (.cons_cons _ (List.nil_sublist _))))))))),?_⟩;refine Jb O (Ob Xb O) (Q8 (.slice _ _ _) O hF mZ O O UT R6 ?_);intro w hF hE;have hV:=hV.store hE Ma;have hQ:=hQ.store hE Ma;refine⟨hF.sub (.cons _ (.cons _ (.cons_cons _ (.cons_cons _ (.cons _ (.cons_cons _ (.cons_cons _ (.cons_cons _ (List.nil_sublist _))))))))),?_⟩
      refine Hc (Bb ?_);refine Bb ?_;exact Hb ⟨((ac.1++[ks[j]],ac.2++[(Kf L pick xs[j]).val])),(A4),(c4),(k_4),(A5),(c5),(i_5),(vals++q.v.cells),(by rw[Lg xs ks j hjx,hac,J7 hqh (by assumption),show ks.getD j []=ks[j] by simp[List.getD,hjk]]),(hjx),(hS4_k),(hS5_i),(by rw[jQ];exact (hV.append (RX.one (Se hQ.rep).2.2.2.2)).sub (by intro x hx;simp only[ids,jQ,List.map_cons,List.map_nil,qQ,mQ,oQ]at hx ⊢;grind)),M4,hF.drop 4⟩
     refine Kg 1 O hF (Nb (cs:=(q.v.cells).toArray) zZ nZ lX Ab Ab Ub) ?_;intro b12 w hb12 hF hE;have hV:=hV.alloc hE hb12;have hQ:=hQ.alloc hE hb12;refine⟨hF.mid 1 6,?_⟩;refine Kg 1 O hF (Nb (cs:=#[I (ks[j])]) yZ sZ qX Ab Ab Ub) ?_;intro b13 w hb13 hF hE;have hV:=hV.alloc hE hb13;have hQ:=hQ.alloc hE hb13;refine⟨hF.mid 2 6,?_⟩;refine Pp [_,_,_,_,_,_,_,_] [sk,si] 0 (news:=[I (ks[j])]) (len':=(ac.1++[ks[j]]).length) (ys:=((ac.1++[ks[j]]).map λs=>Value.string (bs s))) O ZE hF hK O O (O) (λ_=>⟨_,O,Vd (hF.cellsAll 0 O)⟩) (by simp[Value.oneCell']) (by simp only[maxLen];omega) Ma Ma Aa ?_;intro A6 c6 k_6 w hS6_k hF hE hnew;have hsub:∀x∈(sk).map (·.1),x∈ids sk:=λ_ h=>h;have hV:=hV.grow hE hnew (λx hx=>by have:=hsub x hx;simp[this]);have hQ:=hQ.grow hE hnew (λx hx=>by have:=hsub x hx;simp[this]);clear hsub;refine⟨hF.mid 2 6,?_⟩;refine Jb O (Ob Td O) ?_;refine Pp [_,_,_,_,_,_,_,_] [k_6,si] 1 (news:=[J (q.v.k),I (q.v.t),.slice q.v.A q.v.n q.v.c,.slice q.v.B q.v.m q.v.e]) (len':=(ac.2++[(Kf L pick xs[j]).val]).length) (ys:=vals++q.v.cells) O Dt hF hI2 O O (O) (λ_=>⟨_,O,Vd (hF.cellsAll 1 O)⟩) (by simp[Value.oneCell']) (by simp only[maxLen];omega) Ma (O) Aa ?_;intro A7 c7 i_7 w hS7_i hF hE hnew;have hsub:∀x∈(si).map (·.1),x∈ids si:=λ_ h=>h;have hV:=hV.grow hE hnew (λx hx=>by have:=hsub x hx;simp[this]);have hQ:=hQ.grow hE hnew (λx hx=>by have:=hsub x hx;simp[this]);clear hsub;refine⟨hF.mid 2 6,?_⟩;refine Q8 (.slice _ _ _) O hF sizeOf22 O O UT Iz ?_;intro w hF hE;have hV:=hV.store hE Ma;have hQ:=hQ.store hE Ma;refine⟨hF.sub (.cons _ (.cons _ (.cons_cons _ (.cons_cons _ (.cons _ (.cons_cons _ (.cons_cons _ (.cons_cons _ (List.nil_sublist _))))))))),?_⟩;refine Jb O (Ob Xb O) (Q8 (.slice _ _ _) O hF mZ O O UT R6 ?_)
     intro w hF hE;have hV:=hV.store hE Ma;have hQ:=hQ.store hE Ma;refine⟨hF.sub (.cons _ (.cons _ (.cons_cons _ (.cons_cons _ (.cons _ (.cons_cons _ (.cons_cons _ (.cons_cons _ (List.nil_sublist _))))))))),?_⟩;refine Hc (Bb ?_);refine Bb ?_;exact Hb ⟨((ac.1++[ks[j]],ac.2++[(Kf L pick xs[j]).val])),(A6),(c6),(k_6),(A7),(c7),(i_7),(vals++q.v.cells),(by rw[Lg xs ks j hjx,hac,J7 hqh (by assumption),show ks.getD j []=ks[j] by simp[List.getD,hjk]]),(hjx),(hS6_k),(hS7_i),(by rw[jQ];exact (hV.append (RX.one (Se hQ.rep).2.2.2.2)).sub (by intro x hx;simp only[ids,jQ,List.map_cons,List.map_nil,qQ,mQ,oQ]at hx ⊢;grind)),M4,hF.drop 4⟩
    refine Ga (Ha ?_);refine Ba (Za O) (Ba (Nw O O) ?_);refine Ba (Vb O) (Ya (d:=85) O (λhg8=>?_) (λhg8=>?_))
    ·
     obtain⟨i1,hi1,hh1⟩:=hkid Aa;obtain⟨ad1,cq1,hAd1,hcq1,hcf1⟩:=hL.cf_elem hi1;have hcl1:=hcf1.k;rw[hh1];refine Ba (Ob Bv O) (Zb (Xe isAgg58 O hF.F 5 O O) ?_);refine Ba (Za O) (Ka (v:=.pointer (some (ad1.add (i1*17)))) (Sa (i:=(i1:Int)) Kz O hAd1 O Aa Aa) ?_);refine Ka (v:=.pointer (some ((ad1.add (i1*17)).add 1))) (Te (a:=ad1.add (i1*17)) Lk O) (Ka (v:=J (cq1.k)) (Qd eZ O (hF.cell0 (hcq1 1 Eb))) ?_);refine Ba (Qf O O) (Ba (Tb O O) ?_);refine Ba (Db O) (Ta ?_);refine Fa (Ib O O (λhc4=>?_) (λhc4=>?_))
     ·
      have hqm:=(Ck hQv).2.2.2.1;obtain⟨eG,hrG,hGl_,hGc⟩:=((Ck hQv).2.2.2.2.2).slice_open (λd hd=>by rw[Me]at hd;obtain⟨u,_,rfl⟩:=nQ.1 hd;exact Yc u);have hRG:RX w0 _ _ _ _:=hrG;have h5:0<=Aj xs[j]/\(L.getD (Aj xs[j]).toNat noC).cls=5:=by rw[hzk,hh1];exact⟨by omega,by rw[GD hi1];omega⟩
      have hil:=(VF hLs pick k [] xs[j]).1;rw[BI hqh (by assumption) h5]at hil;simp only at hil;refine Ha (Ba (Ob Xb O) ?_);refine Zb (Xe zQ O hF.F 2 O O) (Ba (Ob Ag O) ?_);refine Ba (Ob Xb O) (Zb (Xe zQ O hF.F 0 O O) ?_);refine JC [_,_,_,_,_,_] [sk,si] 1 (news:=eG) (len':=(ac.2++(Kf L pick xs[j]).val.items).length) (ys:=vals++eG) Dt hF hI2 rfl rfl (hGl_) (λhk=>by obtain⟨ad,hA,hc⟩:=hGc hk;exact⟨ad,hA,Vd hc⟩) (Xp hrG.one_) (by simp only[maxLen];omega) (by rw[dQ,<-hqm]) (rfl) Aa ?_;intro A9 c9 i_9 w hS9_i hF hE hnew;have hsub:∀x∈(si).map (·.1),x∈ids si:=λ_ h=>h;have hV:=hV.grow hE hnew (λx hx=>by have:=hsub x hx;simp[this]);have hQ:=hQ.grow hE hnew (λx hx=>by have:=hsub x hx;simp[this]);have hRG:=hRG.grow hE hnew (λx hx=>by have:=hsub x hx;simp[this]);clear hsub;refine Ba (Ob Xb O) (Ml (.slice _ _ _) hF mZ O O Iz R6 ?_);intro w hF hE;have hV:=hV.store hE Ma;have hQ:=hQ.store hE Ma;have hRG:=hRG.store hE Ma;refine Ta (Bb ?_);refine Bb ?_;exact Hb ⟨((ac.1,ac.2++(Kf L pick xs[j]).val.items)),(A1),(c1),(sk),(A9),(c9),(i_9),(vals++eG),(by rw[Lg xs ks j hjx,hac,BI hqh (by assumption) h5,qQ]),(hjx),(hK),(hS9_i),(by rw[jQ,<-Me (Kf L pick xs[j]).val.items];exact (hV.append hRG).sub (by intro x hx;simp only[ids,jQ,List.map_cons,List.map_nil,qQ,mQ,oQ]at hx ⊢;grind)),M4,hF.drop 2⟩
     have h5n:¬(0<=Aj xs[j]/\(L.getD (Aj xs[j]).toNat noC).cls=5):=by
       rintro⟨ha,hb⟩
       first
       | (rw[hzk]at ha;omega)
       | (rw[hzk,hh1,GD hi1]at hb;omega)
     refine Ha (Ba (Ob Xb O) ?_);refine Zb (Xe zQ O hF.F 2 O O) (Ba (Ob Ag O) ?_);refine Ka (v:=.agg (q.v.cells).toArray) (Wa (l:=q.v.cells) aZ nZ O O (hF.part 0 1 O O)) (Rl 1 hF (Nb (cs:=(q.v.cells).toArray) zZ nZ lX Ab Ab Ub) ?_);intro b14 w hb14 hF hE;have hV:=hV.alloc hE hb14;have hQ:=hQ.alloc hE hb14;refine JC [_,_,_,_,_,_,_] [sk,si] 1 (news:=[J (q.v.k),I (q.v.t),.slice q.v.A q.v.n q.v.c,.slice q.v.B q.v.m q.v.e]) (len':=(ac.2++[(Kf L pick xs[j]).val]).length) (ys:=vals++q.v.cells) Dt hF hI2 O O (O) (λ_=>⟨_,O,Vd (hF.cellsAll 0 O)⟩) (by simp[Value.oneCell']) (by simp only[maxLen];omega) Ma (O) Aa ?_;intro A10 c10 i_10 w hS10_i hF hE hnew;have hsub:∀x∈(si).map (·.1),x∈ids si:=λ_ h=>h;have hV:=hV.grow hE hnew (λx hx=>by have:=hsub x hx;simp[this]);have hQ:=hQ.grow hE hnew (λx hx=>by have:=hsub x hx;simp[this]);clear hsub;refine Ba (Ob Xb O) (Ml (.slice _ _ _) hF mZ O O R6 R6 ?_);intro w hF hE;have hV:=hV.store hE Ma;have hQ:=hQ.store hE Ma;refine Ta (Bb ?_);refine Bb ?_;exact Hb ⟨((ac.1,ac.2++[(Kf L pick xs[j]).val])),(A1),(c1),(sk),(A10),(c10),(i_10),(vals++q.v.cells),(by rw[Lg xs ks j hjx,hac,HH hqh (by assumption) h5n,qQ]),(hjx),(hK),(hS10_i),(by rw[jQ];exact (hV.append (RX.one (Se hQ.rep).2.2.2.2)).sub (by intro x hx;simp only[ids,jQ,List.map_cons,List.map_nil,qQ,mQ,oQ]at hx ⊢;grind)),M4,hF.drop 3⟩
    refine Ca (Ca ?_);refine Ca (Ca ?_);refine Ca (Ca ?_);refine Ca (Ba (Kb O O) ?_);refine Ba (Db O) (Ta ?_);refine Fa (De O ?_);have h5n:¬(0<=Aj xs[j]/\(L.getD (Aj xs[j]).toNat noC).cls=5):=by
      rintro⟨ha,hb⟩
      first
      | (rw[hzk]at ha;omega)
      | (rw[hzk,hh1,GD hi1]at hb;omega)
    refine Ha (Ba (Ob Xb O) ?_);refine Zb (Xe zQ O hF.F 2 O O) (Ba (Ob Ag O) ?_);refine Ka (v:=.agg (q.v.cells).toArray) (Wa (l:=q.v.cells) aZ nZ O O (hF.part 0 1 O O)) (Rl 1 hF (Nb (cs:=(q.v.cells).toArray) zZ nZ lX Ab Ab Ub) ?_);intro b15 w hb15 hF hE;have hV:=hV.alloc hE hb15;have hQ:=hQ.alloc hE hb15;refine JC [_,_,_,_,_,_,_] [sk,si] 1 (news:=[J (q.v.k),I (q.v.t),.slice q.v.A q.v.n q.v.c,.slice q.v.B q.v.m q.v.e]) (len':=(ac.2++[(Kf L pick xs[j]).val]).length) (ys:=vals++q.v.cells) Dt hF hI2 O O (O) (λ_=>⟨_,O,Vd (hF.cellsAll 0 O)⟩) (by simp[Value.oneCell']) (by simp only[maxLen];omega) Ma (O) Aa ?_;intro A11 c11 i_11 w hS11_i hF hE hnew;have hsub:∀x∈(si).map (·.1),x∈ids si:=λ_ h=>h;have hV:=hV.grow hE hnew (λx hx=>by have:=hsub x hx;simp[this]);have hQ:=hQ.grow hE hnew (λx hx=>by have:=hsub x hx;simp[this]);clear hsub;refine Ba (Ob Xb O) (Ml (.slice _ _ _) hF mZ O O R6 R6 ?_);intro w hF hE;have hV:=hV.store hE Ma;have hQ:=hQ.store hE Ma;refine Ta (Bb ?_);refine Bb ?_;exact Hb ⟨((ac.1,ac.2++[(Kf L pick xs[j]).val])),(A1),(c1),(sk),(A11),(c11),(i_11),(vals++q.v.cells),(by rw[Lg xs ks j hjx,hac,HH hqh (by assumption) h5n,qQ]),(hjx),(hK),(hS11_i),(by rw[jQ];exact (hV.append (RX.one (Se hQ.rep).2.2.2.2)).sub (by intro x hx;simp only[ids,jQ,List.map_cons,List.map_nil,qQ,mQ,oQ]at hx ⊢;grind)),M4,hF.drop 3⟩
   rintro σ w ⟨ac3,A3,c3,sk3,A4,c4,si3,vals3,hac3,hjx,hK3,hI3,hV3,hs,hF⟩;refine Eg.slots hs ?_;clear hs;intro σ;refine Fa (Ha ?_);refine Ba (Ek (((j+1:Nat):Int)) O O) (Ba (Za O) ?_);refine Ta (Hb ⟨_,?_,j+1,ac3,A3,c3,sk3,A4,c4,si3,vals3,O,Aa,(hac3),(hK3),(hI3),(hV3),M4,hF⟩);omega
  refine Ec (Ac O ?_);refine Fa (Ga ?_);refine Ha (Zb (Of aZ nZ O hF.F 0 O O) ?_);refine Lb (has_c ⟨k,t,A1,ac.1.length,c1,A2,ac.2.length,c2⟩ _) (Na XV O O) ?_;rintro _ w ⟨rfl,hE⟩;have hF:=hF.ext hE;have hV:=hV.ext hE;refine Ie hF oZ O O Js ?_;intro w hF hE;have hV:=hV.store hE Ma;refine Ta (Fa ?_);refine Va (Ua (Ja (Vi O (l:=[.bool true,J k,I t,.slice A1 ac.1.length c1,.slice A2 ac.2.length c2]) O cZ oZ O (hF.cellsAll 1 O)) ?_));obtain rfl:j=xs.length:=by omega
  have e0:Kf L pick (.node k t ks xs)=⟨true,.node k t ac.1 ac.2⟩:=by rw[Kf,if_neg (by rw[Bw];exact hc0),<-hac,List.take_length]
  rw[e0];have hkl:∀s∈ac.1,s.length<=9223372036854775807:=λs hs=>by rw[<-hac]at hs;rcases Vu _ (gQ _) s hs with h|h;(have:=hkm s h;omega);(rw[h];simp)
  refine⟨⟨true,k,t,A1,ac.1.length,c1,A2,ac.2.length,c2⟩,O,J5 (s:=⟨true,.node k t ac.1 ac.2⟩) (x:=⟨k,t,A1,ac.1.length,c1,A2,ac.2.length,c2⟩) (Rep.tree_mk ⟨by omega,by omega⟩ Aa ?_ ?_),hF.same⟩
  ·exact hK.rep (pre:=[_,_,_,_]) hF (RX.strs (ids:=([b6,b3,b2,b1]++(ids sk++ids si))) hkl) Ma
  rw[Me];exact hI2.rep (pre:=[_,_,_,_]++sk) (post:=[]) (by simpa using hF) hV Ma
theorem OX(L:List Cf)(pick:List Int)(hlp:L.length=pick.length)(hLs:∀c∈L,CfS c)(x:Tree):DZ L pick x:=Tree.ind (PR L pick hlp hLs) x
theorem EZ{L:List Cf}(hL:∀c∈L,CfS c)(pick:List Int)(k:Int)(key:Str)(x:Tree):Dc (Ms L k key (Aj x) (Kf L pick x)).2<=Qb (Kf L pick x).val:=by
  unfold Ms;split
  ·split
   ·simp[Dc]
   split
   ·have:=Ox (Kf L pick x).val;show Dc (Kf L pick x).val.items<=_;omega
   simp[Dc]
  simp[Dc]
theorem kid_max{L:List Cf}(pick:List Int)(k:Int)(key:Str)(x:Tree){M:Nat}(h:Be (Kf L pick x).val<=M):∀y∈(Ms L k key (Aj x) (Kf L pick x)).2,Be y<=M:=by
  unfold Ms;split
  ·split
   ·intro y hy;rw[pQ.1 hy];exact h
   split
   ·exact M9 h
   intro y hy;rw[pQ.1 hy];exact h
  intro y hy;cases hy
theorem NX{L:List Cf}(hL:∀c∈L,CfS c)(pick:List Int)(x:Tree):Be x<=16777216->Qb (Kf L pick x).val<=257*Qb x/\Be (Kf L pick x).val<=16777216 :=
  Tree.ind (Q:=λx=>Be x<=16777216->Qb (Kf L pick x).val<=257*Qb x/\Be (Kf L pick x).val<=16777216) (λk t ks xs ih hm=>by
    by_cases h0:0<=Aj (.node k t ks xs)
    ·rw[L4 h0]
     have:=M7 hL pick (Aj (.node k t ks xs));have:=O9 (.node k t ks xs);exact⟨by omega,by omega⟩
    rw[Kf, if_neg h0];have key:∀j,j<=xs.length->Dc (Ii L pick k ks (xs.take j)).2<=257*Dc (xs.take j)/\∀y∈(Ii L pick k ks (xs.take j)).2,Be y<=16777216:=by
      intro j
      induction j with
      | zero=>intro _;simp[Ii,Dc]
      | succ j ihj =>
        intro hj;obtain⟨h1,h2⟩:=ihj Aa;have hx:xs[j]' Aa∈xs:=eQ _;obtain⟨h3,h4⟩:=ih _ hx (M9 (x:=.node k t ks xs) hm _ hx);rw[Lg xs ks j Aa];have h5:=EZ hL pick k (ks.getD j []) (xs[j]' Aa);have h6:Dc (xs.take (j+1))=Dc (xs.take j)+Qb (xs[j]' Aa):=by rw[iQ Aa,Al];simp[Dc]
        refine⟨by rw[Al,h6];omega,λy hy=>?_⟩;rcases mQ.1 hy with hy|hy
        ·exact h2 y hy
        exact kid_max pick k _ _ h4 y hy
    obtain⟨h1,h2⟩:=key xs.length (gQ _);rw[List.take_length]at h1 h2;refine⟨by rw[Qb,Qb];omega,?_⟩;have h7:=F0 h2;have h8:Rm (Ii L pick k ks xs).1<=16777216:=Hz λs hs=>by
      have hs':=hs;rw[<-List.take_length (l:=xs)]at hs';rcases Vu xs.length (gQ _) s hs' with h|h
      ·exact AF (x:=.node k t ks xs) hm s h
      rw[h];simp
    have h9:=L7 (x:=.node k t ks xs) hm;simp only[Tree.text]at h9;rw[Be];omega) x
theorem V7{v:Tree}{L:List Cf}{pick:List Int}(h:¬(Kd v=true/\Wr v L pick=true)):Fk v L pick=(zeroT,1):=if_neg h
theorem Gu{v:Tree}{L:List Cf}{pick:List Int}(h:Kd v=true/\Wr v L pick=true):Fk v L pick=if (Kf L pick v).has=true then (if Yd (Kf L pick v).val=true then ((Kf L pick v).val,0) else (zeroT,1)) else (zeroT,8):=if_pos h
theorem TR{v:Tree}(h:Kd v=true):Xc nodeB v=true:=(Bool.and_eq_true_iff.1 h).2
theorem IZ{v:Tree}{L:List Cf}{pick:List Int}(h:Wr v L pick=true):L.length=pick.length:=by
  unfold Wr at h;rw[Bool.and_eq_true,decide_eq_true_eq]at h;exact h.1
theorem ZD(L:List Cf)(pick:List Int)(LA PA:Option Addr)(lc pc:Nat)(SL SP:Nat->Prop)(t:Tree)(x:Tv)(SX:Nat->Prop)(w0:World)(hL:Rep SL w0 (.slice (L.map L8)) [.slice LA L.length lc])(hP:Rep SP w0 (.slice (pick.map Mi)) [.slice PA pick.length pc])(hLs:∀c∈L,CfS c)(hX:Rep SX w0 (Pb t) x.cells)(hol:HolIn L.length t)(hsz:Qb t<=512)(hmx:Be t<=16777216)(hG:Gl w0):Calls prog 48 #[.agg (x.cells).toArray,.slice LA L.length lc,.slice PA pick.length pc] w0 (Dd λv w'=>∃q:Tv,v=.tuple #[.agg q.cells.toArray,J (Fk t L pick).2]/\Rep (Btw w0 w') w' (Pb (Fk t L pick).1) q.cells/\Same [] w0 w'):=by
 refine Ia func48 O ntmps48 Eb (Km _ _ _) ?_;have hF:=FR.start w0 [];refine Ea (Oe hF O ?_);rintro b1 w hb1 hF -;refine Wc (cs:=#[J 0,I [],aQ,aQ]) hF lX O ?_;rintro b2 w hb2 hF -;refine Ba (Gb O) (Rb (Ba (Sf O) (Ba (Sf O) ?_)));refine Ka (w':=w) (v:=.agg #[.slice LA L.length lc,.slice PA pick.length pc]) Ub (Gg hF zeroValue111 sizeOf111 O ?_);rintro b3 w hb3 hF -;refine Da (Ga (Ea (Zb (Of aZ nZ O hF.F 2 O O) ?_)));refine Oa hF (L5 t Aa _ _ x.cells (hF.rep hX) (Ln _ Aa) (hG.ext hF.same)) (Na QH O O) ?_;intro w hF;refine Ba (Si O) (Ba (Vb O) ?_);refine Lc (d:=16) O (λhg0=>?_) (λhg0=>?_)
 ·
  refine Ca (Ca (Ca (Ca (Ba (Tb O O) (Da (Ad O (Ea ?_)))))));refine Ka (w':=w) (v:=.agg #[J 0,I [],aQ,aQ]) Ub (Ie hF nZ O O Js ?_);rintro w hF -;refine Ba (Gb O) (Da ?_);refine Va (Ua (Ja (Nc O (l:=[J 0,I [],aQ,aQ]) O aZ nZ O (hF.cellsAll 1 O) (v:=J 1) O) ?_));rw[V7 (by simp_all)];exact⟨V9,O,Vn _ _,hF.same⟩
 refine Zb (Of isAgg111 sizeOf111 O hF.F 0 O O) (Zb (Of aZ nZ O hF.F 2 O O) ?_);refine Oa hF (goodC_c L pick LA PA lc pc _ _ t x _ _ (hF.rep hL) (hF.rep hP) (λc hc=>(hLs c hc).ok) (hF.rep hX) Aa (hG.ext hF.same)) (Xa en_72 O O O) ?_;intro w hF;refine Ba (Si O) (Ba (Kb O O) (Da ?_));refine Le O O (λhc0=>?_) (λhc0=>?_)
 ·
  refine Ea (Ka (w':=w) (v:=.agg #[J 0,I [],aQ,aQ]) Ub ?_);refine Ie hF nZ O O Js ?_;rintro w hF -;refine Ba (Gb O) (Da ?_);refine Va (Ua (Ja (Nc O (l:=[J 0,I [],aQ,aQ]) O aZ nZ O (hF.cellsAll 1 O) (v:=J 1) O) ?_));rw[V7 (by simp_all)];exact⟨V9,O,Vn _ _,hF.same⟩
 refine La (Fa (Ea (Zb (Of isAgg111 sizeOf111 O hF.F 0 O O) (Zb (Of aZ nZ O hF.F 2 O O) ?_))));have hgo:Kd t=true/\Wr t L pick=true:=by simp_all
 refine Lb (OX L pick (IZ hgo.2) hLs t LA PA lc pc _ _ _ _ x.cells (hF.rep hL) (hF.rep hP) (hF.rep hX) ⟨hol,TR hgo.1,hsz,hmx⟩ (hG.ext hF.same)) (Xa en_73 O O O) ?_;rintro _ w ⟨y,rfl,hRt,hE⟩;have hY:=RX.made (ids:=[b3,b2,b1]) hF.same.size (λx hx=>hF.lt_ids (by simpa using hx)) hRt;have hyp:=Se hRt;have hF:=hF.ext hE;clear hE hRt;have hfb:=NX hLs pick t hmx;refine Gg hF mX oZ O ?_;intro b4 w hb4 hF hE;have hY:=hY.alloc hE hb4;refine Da (Ga (Qa (Ea (Ba (Ob Qh O) (Zb (N3 fZ O hF.F 0 O O) (Ba (Si O) (Ba (Db O) (Da ?_))))))));refine Le O O (λhc1=>?_) (λhc1=>?_)
 ·
  refine Ea (Ka (w':=w) (v:=.agg #[J 0,I [],aQ,aQ]) Ub ?_);refine Ie hF nZ O O Iz ?_;intro w hF hE;have hY:=hY.store hE (by grind);refine Ba (Gb O) (Da ?_);refine Va (Ua (Ja (Nc O (l:=[J 0,I [],aQ,aQ]) O aZ nZ O (hF.cellsAll 2 O) (v:=J 8) O) ?_));rw[show Fk t L pick=(zeroT,8) by rw[Gu hgo,if_neg (by rw[<-hyp.1];simp_all)]];exact⟨V9,O,Vn _ _,hF.same⟩
 refine Ea (Ba (Ob Ag O) (Ka (v:=.agg (y.v.cells).toArray) (Wa (l:=y.v.cells) aZ nZ O O (hF.part 0 1 O O)) ?_));refine Lb (O4 (Kf L pick t).val Aa _ _ y.v.cells (Se hY.rep).2.2.2.2 (Ln _ Aa) (hG.ext hF.same)) (Na XM O O) ?_;rintro _ w ⟨rfl,hE⟩;have hF:=hF.ext hE;have hY:=hY.ext hE;refine Ba (Si O) (Ba (Db O) (Da ?_));refine Le O O (λhc2=>?_) (λhc2=>?_)
 ·
  refine Ea (Ka (w':=w) (v:=.agg #[J 0,I [],aQ,aQ]) Ub ?_);refine Ie hF nZ O O Iz ?_;intro w hF hE;have hY:=hY.store hE (by grind);refine Ba (Gb O) (Da ?_);refine Va (Ua (Ja (Nc O (l:=[J 0,I [],aQ,aQ]) O aZ nZ O (hF.cellsAll 2 O) (v:=J 1) O) ?_));rw[show Fk t L pick=(zeroT,1) by rw[Gu hgo,if_pos (by rw[<-hyp.1];simp_all),if_neg (by simp_all)]];exact⟨V9,O,Vn _ _,hF.same⟩
 refine La (Bb (Fa (Ea (Ba (Ob Ag O) (Ka (v:=.agg (y.v.cells).toArray) (Wa (l:=y.v.cells) aZ nZ O O (hF.part 0 1 O O)) ?_)))));refine Ie hF nZ O O Iz ?_;intro w hF hE;have hY:=hY.store hE (by grind);refine Ba (Gb O) (Da ?_);refine Va (Ua (Ja (Nc O (l:=y.v.cells) O aZ nZ O (hF.cellsAll 2 O) (v:=J 0) O) ?_));rw[show Fk t L pick=((Kf L pick t).val,0) by rw[Gu hgo,if_pos (by rw[<-hyp.1];simp_all),if_pos (by simp_all)]];have hYd:=hY.done;exact⟨y.v,O,(Se hYd).2.2.2.2,hF.same⟩
end Go.Scarf
