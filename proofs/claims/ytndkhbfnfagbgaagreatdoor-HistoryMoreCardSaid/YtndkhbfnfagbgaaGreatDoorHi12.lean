/- A part of the proof. -/
import Derived.Test.YtndkhbfnfagbgaaGreatDoorHi11
import Derived.Test.YtndkhbfnfagbgaaGreatDoorIv
set_option linter.all false
set_option maxHeartbeats 8000000
set_option maxRecDepth 10000
namespace Go.Scarf
open Go.RowKit Go.Proofs Go.Proofs.Tryz
abbrev Ez(i:UInt8):Tree:=.node 3 [i] [] []
abbrev Yy(i:UInt8):Tv:=⟨3,[i],none,0,0,none,0,0⟩
theorem Xu{S:Nat->Prop}{w:World}(i:UInt8):Rep S w (Zb (Ez i)) (Yy i).cells:=Rep.tree_mk ⟨by decide,by decide⟩ Da (Rep.nil_slice 0 sX none) (Rep.nil_slice 0 sX none)
def Oz:List Cm:=[⟨[],Ez 49⟩,⟨[0],Ez 49⟩,⟨[0],Ez 50⟩,⟨[1,2],Ez 49⟩,⟨[1,2],Ez 51⟩]
theorem TC:Ld Oz=true:=by kernel_rfl
theorem Ct:∀x∈Oz,Xm x:=λx hx=>by
  have h:∀x∈Oz,Wb x.val<=1000/\Yd x.val<=1000:=of_decide_eq_true (show decide (∀x∈Oz,Wb x.val<=1000/\Yd x.val<=1000)=true by kernel_rfl);have:=h x hx;exact⟨by omega,Hk _ sX⟩
theorem VT:∀k (hk:k<Oz.length),Wb Oz[k].val<=256/\Yd Oz[k].val<=16777216:=λk hk=>by
  have h:∀x∈Oz,Wb x.val<=1000/\Yd x.val<=1000:=of_decide_eq_true (show decide (∀x∈Oz,Wb x.val<=1000/\Yd x.val<=1000)=true by kernel_rfl);have h2:∀x∈Oz,Wb x.val<=256:=of_decide_eq_true (show decide (∀x∈Oz,Wb x.val<=256)=true by kernel_rfl);have:=h _ (eQ hk);have:=h2 _ (eQ hk);omega
theorem UK:(List.range Oz.length).filter (Wl Oz 1 2)=[0]:=by kernel_rfl
theorem MT:Jv Oz 3 4=[1,2]:=by kernel_rfl
theorem QS:Wv Oz 3=[0,1,2,3]:=by kernel_rfl
theorem ET:Ev [] Oz[0].val Oz[1].val Oz[2].val=(Ez 50,[],0):=by kernel_rfl
theorem h31_add:Ix Oz ⟨[3,4],Ez 49⟩=0:=by kernel_rfl
theorem DQ:Ix Oz ⟨[5],Ez 49⟩=1:=by kernel_rfl
theorem Du{w0 w:World}{bs_:List (Nat × Obj)}(hF:FR w0 [] bs_ w){b:Nat}(l:List Int)(hm:∀z∈l,-1000<=z/\z<=1000)(hl:l.length<=1000)(i:Nat)(hb:bs_[i]? = some (b,.cells (l.map λs=>Value.int .i64 s).toArray 3)):Rep (IW w0 [] w) w (.slice (l.map Zd)) [W b l.length l.length] :=
  (hF.rowX (ids:=[]) i hb (RX.plain λ_=>An λz hz=>by have:=hm z hz;omega) Da Da sX).rep
theorem cm31(i:UInt8):Xm ⟨[3,4],Ez i⟩/\Xm ⟨[5],Ez i⟩:=by
  have h:Wb (Ez i)<=1/\Yd (Ez i)<=1:=by simp[Wb,Rb,Yd,Wm,Tj]
  exact⟨⟨by show Wb (Ez i)<=_;omega,Hk _ (by show Yd (Ez i)<=_;omega)⟩,by show Wb (Ez i)<=_;omega,Hk _ (by show Yd (Ez i)<=_;omega)⟩
def csF(v:Value):Value->World->Prop:=λu _=>u=v
def rwF(l:List Int):Value->World->Prop:=λu w=>∃b,u=W b l.length l.length/\w.heap[b]? = some (.cells (l.map λs=>Value.int .i64 s).toArray 3)
def cmF(x:Cm):Value->World->Prop:=λu w=>∃q:Mv,u=.agg q.cells.toArray/\Rep (λ_=>True) w (cmD x) q.cells
def hsF(l:List Cm):Value->World->Prop:=λu w=>∃A c,u=.slice A l.length c/\Rep (λ_=>True) w (Nr l) [.slice A l.length c]
theorem V_{v:Value}:∀u w w',Same [] w w'->csF v u w->csF v u w':=λ_ _ _ _ h=>h
theorem WD{l:List Int}:∀u w w',Same [] w w'->rwF l u w->rwF l u w':=λ_ _ _ hs ⟨b,e,h⟩=>⟨b,e,(hs.block b (Ma h) Da).trans h⟩
theorem K7{x:Cm}:∀u w w',Same [] w w'->cmF x u w->cmF x u w':=λ_ _ _ hs ⟨q,e,h⟩=>⟨q,e,h.ext hs⟩
theorem hsF_st{l:List Cm}:∀u w w',Same [] w w'->hsF l u w->hsF l u w':=λ_ _ _ hs ⟨A,c,e,h⟩=>⟨A,c,e,h.ext hs⟩
theorem C7{l:List Int}{b:Nat}{w:World}(h:w.heap[b]? = some (.cells (l.map λs=>Value.int .i64 s).toArray 3))(hm:∀z∈l,-1000<=z/\z<=1000)(hl:l.length<=1000):Rep (λ_=>True) w (.slice (l.map Zd)) [W b l.length l.length] :=
  YR h (An λz hz=>by have:=hm z hz;omega) Da sX
def l31:List FactH:=[(0,13,csF (.agg (Yy 49).cells.toArray)),(1,14,cmF ⟨[],Ez 49⟩),(2,15,rwF [0]),(3,16,csF (.agg (Yy 49).cells.toArray)),(4,17,cmF ⟨[0],Ez 49⟩),(5,18,rwF [0]),(6,19,csF (.agg (Yy 50).cells.toArray)),(7,20,cmF ⟨[0],Ez 50⟩),(8,21,rwF [1,2]),(9,22,csF (.agg (Yy 49).cells.toArray)),(10,23,cmF ⟨[1,2],Ez 49⟩),(11,24,rwF [1,2]),(12,25,csF (.agg (Yy 51).cells.toArray)),(13,26,cmF ⟨[1,2],Ez 51⟩),(14,27,hsF Oz),(15,2,hsF Oz)]
theorem ph31(b1:Nat):PhH [(1,V b1)] l31:=⟨by
  unfold l31;simp only[List.forall_mem_cons,List.not_mem_nil,false_imp_iff,implies_true,and_true];exact⟨V_,K7,WD,V_,K7,WD,V_,K7,WD,V_,K7,WD,V_,K7,hsF_st,hsF_st⟩,by kernel_rfl⟩
theorem TH{x y:Tv}(h:x.cells=y.cells):y=x:=by
  obtain⟨k,t,A,n,c,B,m,e⟩:=x;obtain⟨k',t',A',n',c',B',m',e'⟩:=y;simp only[Tv.cells,List.cons.injEq,Value.int.injEq,Value.string.injEq,Value.slice.injEq,true_and,and_true]at h;obtain⟨rfl,h2,⟨rfl,rfl,rfl⟩,rfl,rfl,rfl⟩:=h;have:t=t':=by
    have:=congrArg (λb:ByteArray=>b.data.toList) h2;simpa using this
  rw[this]
theorem Rep.keepB{w0 w1 w w':World}{d:D}{cs:List Value}(h:Rep (Btw w0 w1) w d cs)(hs:Same [] w w'):Rep (Btw w0 w1) w' d cs:=Rep.same h hs Da
theorem TT(w0:World)(hG:Gl w0):Calls prog 4 #[] w0 (Td λv w'=>v=.bool true/\Same [] w0 w'):=by
  refine Ga func4 O ntmps4 Fb (JZ) ?_;have hF:=FR.start w0 [];refine Ha (Fa ?_);refine Ca (Hc O) (Db ?_);refine Ia (Ha ?_);refine Fa (Gb hF (Ki (v':=.agg (Yy 49).cells.toArray) (KS 1 sX sX _ (hG.ext hF.same)) Mb) (Ra ES O O) ?_);intro w hF;refine Kh hF nX oZ O ?_;intro b1 w hb1 hF hE;refine Db (Ia ?_);refine Ha (Jl (λσ w=>∃(Ah:Option Addr),∃(ch:Nat),(Rep (λ_=>True) w (Nr Oz) [.slice Ah Oz.length ch])/\AllEq σ [(1,V b1),(2,.slice Ah Oz.length ch)]/\FR w0 [] [(b1,.cells #[J 3,I [49],aQ,aQ] 27)] w) ?_ ?_)
  ·
   have hF:=hF.drew;have hp:=ph31 b1;refine c_all 16 (Inv:=IH w.drew [(1,V b1)] l31) Mb Mb (IH.start ae1 O) ?_ ?_
   ·exact (Xl (Xl (Xl (Xl (Xl (Xl (Xl (Xl (Xl (Xl (Xl (Xl (Xl (Xl (Xl (Xl stepsA0
      (B3 hp 0 rfl rfl (λS s w hd hI=>⟨[(1,V b1)],.agg (Yy 49).cells.toArray,w,⟨hI.1.1,trivial⟩,λs=>Ya (l:=(Yy 49).cells) aZ oZ rfl rfl ((hF.ext hI.2.1).cellsAll 0 rfl),Same.refl _ _,rfl⟩)))
      (B3 hp 1 rfl rfl (λS s w hd hI=>⟨[(13,.agg (Yy 49).cells.toArray)],.agg (Mv.mk none 0 0 (Yy 49)).cells.toArray,w,⟨hI.dep hd 0 rfl rfl,trivial⟩,λs=>by kernel_rfl,Same.refl _ _,⟨none,0,0,Yy 49⟩,rfl,F8 (x:=⟨[],Ez 49⟩) rfl (Rep.nil_slice 0 sX none) (Xu 49)⟩)))
      (B3 hp 2 rfl rfl (λS s w hd hI=>⟨[],.slice (some ⟨w.heap.size,0,none⟩) 1 1,w.alloc (.cells (([0]:List Int).map λs=>Value.int .i64 s).toArray 3),trivial,λs=>Xa (cs:=(([0]:List Int).map λs=>Value.int .i64 s).toArray) bX qZ oX Ua Ua Mb,(Same.alloc w _).mono Da,w.heap.size,rfl,heap_alloc_new w _⟩)))
      (B3 hp 3 rfl rfl (λS s w hd hI=>⟨[(1,V b1)],.agg (Yy 49).cells.toArray,w,⟨hI.1.1,trivial⟩,λs=>Ya (l:=(Yy 49).cells) aZ oZ rfl rfl ((hF.ext hI.2.1).cellsAll 0 rfl),Same.refl _ _,rfl⟩)))
      (B3 hp 4 rfl rfl (λS s w hd hI=>by
        obtain⟨b,e1,hb⟩:=hI.dep hd 2 rfl rfl;exact⟨[(15,W b 1 1),(16,.agg (Yy 49).cells.toArray)],.agg (Mv.mk (some ⟨b,0,none⟩) 1 1 (Yy 49)).cells.toArray,w,⟨e1,hI.dep hd 3 O O,trivial⟩,λs=>by kernel_rfl,Same.refl _ _,⟨some ⟨b,0,none⟩,1,1,Yy 49⟩,O,F8 (x:=⟨[0],Ez 49⟩) O (C7 (l:=[0]) hb Ua Ua) (Xu 49)⟩)))
      (B3 hp 5 rfl rfl (λS s w hd hI=>⟨[],.slice (some ⟨w.heap.size,0,none⟩) 1 1,w.alloc (.cells (([0]:List Int).map λs=>Value.int .i64 s).toArray 3),trivial,λs=>Xa (cs:=(([0]:List Int).map λs=>Value.int .i64 s).toArray) bX qZ oX Ua Ua Mb,(Same.alloc w _).mono Da,w.heap.size,rfl,heap_alloc_new w _⟩)))
      (h_call hp 6 rfl rfl (λS s w hd hI=>⟨16,_,w,_,Ki (v':=.agg (Yy 50).cells.toArray) (KS 2 sX sX w (hG.ext (hF.same.trans hI.2.1))) Mb,Ra ES rfl rfl,λv w'' h=>⟨h.2,h.1⟩⟩)))
      (B3 hp 7 rfl rfl (λS s w hd hI=>by
        obtain⟨b,e1,hb⟩:=hI.dep hd 5 rfl rfl;exact⟨[(18,W b 1 1),(19,.agg (Yy 50).cells.toArray)],.agg (Mv.mk (some ⟨b,0,none⟩) 1 1 (Yy 50)).cells.toArray,w,⟨e1,hI.dep hd 6 O O,trivial⟩,λs=>by kernel_rfl,Same.refl _ _,⟨some ⟨b,0,none⟩,1,1,Yy 50⟩,O,F8 (x:=⟨[0],Ez 50⟩) O (C7 (l:=[0]) hb Ua Ua) (Xu 50)⟩)))
      (B3 hp 8 rfl rfl (λS s w hd hI=>⟨[],.slice (some ⟨w.heap.size,0,none⟩) 2 2,w.alloc (.cells (([1,2]:List Int).map λs=>Value.int .i64 s).toArray 3),trivial,λs=>Xa (cs:=(([1,2]:List Int).map λs=>Value.int .i64 s).toArray) bX qZ oX Ua Ua Mb,(Same.alloc w _).mono Da,w.heap.size,rfl,heap_alloc_new w _⟩)))
      (B3 hp 9 rfl rfl (λS s w hd hI=>⟨[(1,V b1)],.agg (Yy 49).cells.toArray,w,⟨hI.1.1,trivial⟩,λs=>Ya (l:=(Yy 49).cells) aZ oZ rfl rfl ((hF.ext hI.2.1).cellsAll 0 rfl),Same.refl _ _,rfl⟩)))
      (B3 hp 10 rfl rfl (λS s w hd hI=>by
        obtain⟨b,e1,hb⟩:=hI.dep hd 8 rfl rfl;exact⟨[(21,W b 2 2),(22,.agg (Yy 49).cells.toArray)],.agg (Mv.mk (some ⟨b,0,none⟩) 2 2 (Yy 49)).cells.toArray,w,⟨e1,hI.dep hd 9 O O,trivial⟩,λs=>by kernel_rfl,Same.refl _ _,⟨some ⟨b,0,none⟩,2,2,Yy 49⟩,O,F8 (x:=⟨[1,2],Ez 49⟩) O (C7 (l:=[1,2]) hb Ua Ua) (Xu 49)⟩)))
      (B3 hp 11 rfl rfl (λS s w hd hI=>⟨[],.slice (some ⟨w.heap.size,0,none⟩) 2 2,w.alloc (.cells (([1,2]:List Int).map λs=>Value.int .i64 s).toArray 3),trivial,λs=>Xa (cs:=(([1,2]:List Int).map λs=>Value.int .i64 s).toArray) bX qZ oX Ua Ua Mb,(Same.alloc w _).mono Da,w.heap.size,rfl,heap_alloc_new w _⟩)))
      (h_call hp 12 rfl rfl (λS s w hd hI=>⟨16,_,w,_,Ki (v':=.agg (Yy 51).cells.toArray) (KS 3 sX sX w (hG.ext (hF.same.trans hI.2.1))) Mb,Ra ES rfl rfl,λv w'' h=>⟨h.2,h.1⟩⟩)))
      (B3 hp 13 rfl rfl (λS s w hd hI=>by
        obtain⟨b,e1,hb⟩:=hI.dep hd 11 rfl rfl;exact⟨[(24,W b 2 2),(25,.agg (Yy 51).cells.toArray)],.agg (Mv.mk (some ⟨b,0,none⟩) 2 2 (Yy 51)).cells.toArray,w,⟨e1,hI.dep hd 12 O O,trivial⟩,λs=>by kernel_rfl,Same.refl _ _,⟨some ⟨b,0,none⟩,2,2,Yy 51⟩,O,F8 (x:=⟨[1,2],Ez 51⟩) O (C7 (l:=[1,2]) hb Ua Ua) (Xu 51)⟩)))
      (B3 hp 14 rfl rfl (λS s w hd hI=>by
        obtain⟨q0,e0,r0⟩:=hI.dep hd 1 rfl rfl;obtain⟨q1,e1,r1⟩:=hI.dep hd 4 rfl rfl;obtain⟨q2,e2,r2⟩:=hI.dep hd 7 rfl rfl;obtain⟨q3,e3,r3⟩:=hI.dep hd 10 rfl rfl;obtain⟨q4,e4,r4⟩:=hI.dep hd 13 rfl rfl;have hs:Same [] w (w.alloc (.cells ((q0.cells++(q1.cells++(q2.cells++(q3.cells++(q4.cells++[])))))).toArray 29)):=(Same.alloc w _).mono Da;exact⟨[(14,.agg q0.cells.toArray),(17,.agg q1.cells.toArray),(20,.agg q2.cells.toArray),(23,.agg q3.cells.toArray),(26,.agg q4.cells.toArray)],.slice (some ⟨w.heap.size,0,none⟩) 5 5,w.alloc (.cells ((q0.cells++(q1.cells++(q2.cells++(q3.cells++(q4.cells++[])))))).toArray 29),⟨e0,e1,e2,e3,e4,trivial⟩,λs=>Xa (cs:=((q0.cells++(q1.cells++(q2.cells++(q3.cells++(q4.cells++[])))))).toArray) aX pZ zeroValue29 Ua Ua Mb,hs,some ⟨w.heap.size,0,none⟩,5,O,YR (heap_alloc_new w _) (RepL.cons_mk (r0.ext hs) (RepL.cons_mk (r1.ext hs) (RepL.cons_mk (r2.ext hs) (RepL.cons_mk (r3.ext hs) (RepL.cons_mk (r4.ext hs) RepL.nil_mk))))) O Ua⟩)))
      (B3 hp 15 rfl rfl (λS s w hd hI=>⟨[(27,s 27)],s 27,w,ae1,λs'=>Bm rfl,Same.refl _ _,hI.dep hd 14 rfl rfl⟩)))
   intro s w h;obtain⟨Ah,ch,e,hX⟩:=h.2.2 15 _ rfl rfl;exact Yb ⟨Ah,ch,hX,⟨h.1.1,e,trivial⟩,hF.ext h.2.1⟩
  rintro σ w ⟨Ah,ch,hX,hs,hF⟩;refine Eg.slots hs ?_;clear hs;intro σ;refine Ia (Ha ?_);refine Fa (Ca (Pd O) ?_);refine Cb (PQ Oz TC Ct 1 2 0 Ua Ua UK Ah ch _ _ hX (hG.ext hF.same)) (Dh en_17 O O O O O) ?_;rintro _ w ⟨qa,rfl,hRt,hE⟩;obtain⟨x_,hx_,-,hqa,-⟩:=Ll (y:=Ez 49) hRt;obtain rfl:=TH hx_;clear hRt hx_;have hX:=hX.ext hE;have hF:=hF.ext hE;refine Ca (Ro O) (Ca (N4 O O) ?_);refine Ca (Rs O O) (Kh hF nX oZ O ?_);intro b2 w hb2 hF hE;have hX:=hX.ext hE;refine Ca (Sc O) (Db ?_);refine Ia (Ha ?_);refine Fa (Ca (Pd O) ?_);refine Cb (EG Oz TC Ct 1 2 0 Ua Ua UK Ua _ ET (λ_=>at_same [] 39 _ _ _ (.inr (.inl Mb))) VT Ah ch _ _ hX (hG.ext hF.same)) (Dh en_12 O O O O O) ?_;rintro _ w ⟨qb,Ac,cc,rfl,hRt,-,hE⟩;obtain⟨x_,hx_,-,hqb,-⟩:=Ll (y:=Ez 50) hRt;obtain rfl:=TH hx_;clear hRt hx_;have hX:=hX.ext hE;have hF:=hF.ext hE;refine Ca (Ro O) (Ca (N4 O O) ?_);refine Ca (VK O O) (Ca (Rs O O) ?_);refine Kh hF nX oZ O ?_;intro b3 w hb3 hF hE;have hX:=hX.ext hE;refine Ca (Qg O) (Ca (Sc O) ?_);refine Db (Ia ?_);refine Ha (Fa ?_);refine Ca (Pd O) (Pf 2 hF (Xa (cs:=#[J 3,J 4]) bX qZ oX Ua Ua Mb) ?_);intro b4 w hb4 hF hE;have hX:=hX.ext hE;refine Yc (Ch aZ oZ O hF.F 3 O O) (Ka (w':=w) (v:=.agg #[W b4 2 2,J 3,I [49],aQ,aQ]) Mb ?_);refine Cb (SO Oz ⟨[3,4],Ez 49⟩ Ah ch ⟨some ⟨b4,0,none⟩,2,2,Yy 49⟩ _ (λb=>True) _ hX O ((Du (b:=b4) hF [3,4] Ua Ua 0 O).weaken λ_ _ _=>trivial) (Xu 49) Ct (cm31 49).1 (hG.ext hF.same)) (Za en_7 O O O) ?_;rintro _ w ⟨-,hA⟩;obtain⟨Ag,cg,sg,pg,hg,rfl,-,-,-,-,-,hE⟩:=hA h31_add;clear hA;have hX:=hX.ext hE;have hF:=hF.ext hE;refine Ca (Ro O) (Ca (VK O O) ?_);refine Ca (Rs O O) (Ca (Qg O) ?_);refine Ca (Sc O) (Db ?_);refine Ia (Ha ?_);refine Fa (Ca (Pd O) ?_);refine Pf 1 hF (Xa (cs:=#[J 5]) bX qZ oX Ua Ua Mb) ?_;intro b5 w hb5 hF hE;have hX:=hX.ext hE
  refine Yc (Ch aZ oZ O hF.F 4 O O) (Ka (w':=w) (v:=.agg #[W b5 1 1,J 3,I [49],aQ,aQ]) Mb ?_);refine Cb (SO Oz ⟨[5],Ez 49⟩ Ah ch ⟨some ⟨b5,0,none⟩,1,1,Yy 49⟩ _ (λb=>True) _ hX O ((Du (b:=b5) hF [5] Ua Ua 0 O).weaken λ_ _ _=>trivial) (Xu 49) Ct (cm31 49).2 (hG.ext hF.same)) (Za en_7 O O O) ?_;rintro _ w ⟨hA,-⟩;obtain⟨rfl,hE⟩:=hA (by rw[DQ];decide);rw[DQ];clear hA;have hX:=hX.ext hE;have hF:=hF.ext hE;refine Ca (Ro O) (Ca (VK O O) ?_);refine Ca (Rs O O) (Ca (Qg O) ?_);refine Ca (Sc O) (Db ?_);refine Ia (Ha ?_);refine Fa (Ca (Pd O) ?_);refine Cb (Q9 Oz Ah ch 3 4 sX sX _ _ hX Ct (hG.ext hF.same)) (Ic en_8 O O O O) ?_;rintro _ w ⟨As,cs,rfl,hRs,hE⟩;rw[MT]at hRs ⊢;have hX:=hX.ext hE;have hF:=hF.ext hE;refine Pf 2 hF (Xa (cs:=#[J 1,J 2]) bX qZ oX Ua Ua Mb) ?_;intro b6 w hb6 hF hE;have hX:=hX.ext hE;have hRs:=hRs.keepB hE;refine Cb (show Calls prog 10 #[.slice As 2 cs,W b6 2 2] w (Td λv w'=>v=.bool true/\Same [] w w') from Ki (v':=.bool true) (LF _ _ _ [1,2] [1,2] _ _ _ _ hRs (Du (b:=b6) hF [1,2] Ua Ua 0 O)) (congrArg Value.bool (decide_eq_true O))) (Za OR O O O) ?_;rintro _ w ⟨rfl,hE⟩;have hF:=hF.ext hE;have hX:=hX.ext hE;have hRs:=hRs.keepB hE;refine Ca (Ae O) (Ca (Pd O) ?_);refine Cb (E_ Oz Ah ch 3 sX _ _ hX Ct (hG.ext hF.same)) (Za en_11 O O O) ?_;rintro _ w ⟨At,ct,rfl,hRt,hE⟩;rw[QS]at hRt ⊢;have hX:=hX.ext hE;have hF:=hF.ext hE;refine Pf 4 hF (Xa (cs:=#[J 0,J 1,J 2,J 3]) bX qZ oX Ua Ua Mb) ?_;intro b7 w hb7 hF hE;have hX:=hX.ext hE;have hRt:=hRt.keepB hE;refine Cb (show Calls prog 10 #[.slice At 4 ct,W b7 4 4] w (Td λv w'=>v=.bool true/\Same [] w w') from Ki (v':=.bool true) (LF _ _ _ [0,1,2,3] [0,1,2,3] _ _ _ _ hRt (Du (b:=b7) hF [0,1,2,3] Ua Ua 0 O)) (congrArg Value.bool (decide_eq_true O))) (Za OR O O O) ?_;rintro _ w ⟨rfl,hE⟩
  have hF:=hF.ext hE;have hX:=hX.ext hE;have hRt:=hRt.keepB hE;refine Ca (Nd O O) (Ca (Ae O) ?_);refine Ca (Kb O) (Ka (v:=.bool true) (Xi (Vp O O) Ua) ?_);refine Ca (Nd O O) (Ca (Ae O) ?_);refine Ca (Xb Vh O) (Yc (Wy fZ O hF.F 5 O O) ?_);refine Ka (v:=.bool true) (Xi (KL O O) hqa) (Ca (Nd O O) ?_);refine Ca (Ae O) (Ca (Kb O) ?_);refine Ka (v:=.bool true) (Xi (Vp O O) Ua) (Ca (Nd O O) ?_);refine Ca (Ae O) (Ca (Pd O) ?_);refine Ca (Ye underlying40 O) (Ka (v:=.bool true) (Xi (Vp O O) Ua) ?_);refine Ca (Nd O O) (Ca (Ae O) ?_);refine Ca (Xb Vh O) (Yc (Wy fZ O hF.F 4 O O) ?_);refine Ka (v:=.bool true) (Xi (KL O O) hqb) (Ca (Nd O O) ?_);refine Ca (Ae O) (Ca (Kb O) ?_);refine Ka (v:=.bool true) (Xi (Vp O O) Ua) (Ca (Nd O O) ?_);refine Ca (Ae O) (Ca (Pd O) ?_);refine Ca (Ye aX O) (Ka (v:=.bool true) (Xi (Vp O O) Ua) ?_);refine Ca (Nd O O) (Ca (Ae O) ?_);refine Ca (Kb O) (Ka (v:=.bool true) (Xi (Vp O O) Ua) ?_);refine Ca (Nd O O) (Ca (Hc O) ?_);refine Db (Ia ?_);refine Qd (v:=.bool true) O O ?_;exact⟨O,hF.same⟩
theorem RJ(h:List Cm)(A:Option Addr)(c:Nat)(k:Int)(hk:-9223372036854775808<=k/\k<=9223372036854775807)(S:Nat->Prop)(w0:World)(hX:Rep S w0 (Nr h) [.slice A h.length c])(hT:∀x∈h,Xm x)(hG:Gl w0):Calls prog 11 #[.slice A h.length c,J k] w0 (Td λv w'=>∃A c,v=.slice A (Ps h k).length c/\Rep (λ_=>True) w' (.slice ((Ps h k).map Zd)) [.slice A (Ps h k).length c]/\Same [] w0 w'):=by
  refine (E_ h A c k hk S w0 hX hT hG).mono λe w' ⟨v,he,A2,c2,hv,hr,hs⟩=>⟨v,he,A2,c2,?_,?_,hs⟩
  ·unfold Ps;rw[rQ];exact hv
  unfold Ps;rw[rQ];exact hr.weaken λ_ _ _=>trivial
theorem JG(h:List Cm)(A:Option Addr)(c:Nat)(a b:Int)(ha:-9223372036854775808<=a/\a<=9223372036854775807)(hb:-9223372036854775808<=b/\b<=9223372036854775807)(S:Nat->Prop)(w0:World)(hX:Rep S w0 (Nr h) [.slice A h.length c])(hT:∀x∈h,Xm x)(hG:Gl w0):Calls prog 8 #[.slice A h.length c,J a,J b] w0 (Td λv w'=>∃A c,v=.slice A (Jj h a b).length c/\Rep (λ_=>True) w' (.slice ((Jj h a b).map Zd)) [.slice A (Jj h a b).length c]/\Same [] w0 w'):=by
  refine (Q9 h A c a b ha hb S w0 hX hT hG).mono λe w' ⟨v,he,A2,c2,hv,hr,hs⟩=>⟨v,he,A2,c2,?_,?_,hs⟩
  ·unfold Jj;rw[rQ];exact hv
  unfold Jj;rw[rQ];exact hr.weaken λ_ _ _=>trivial
theorem Rep.int_ad{S:Nat->Prop}{w:World}{ns:List Int}{A:Option Addr}{len c i:Nat}(h:Rep S w (.slice (ns.map Zd)) [.slice A len c])(hi:i<ns.length):∃ad,A=some ad:=by
  obtain⟨ad,e,-⟩:=h.int_elem hi;exact⟨ad,e⟩
theorem JO{h:List Cm}{m:Int}(hm:0<=m)(h2:m<=200)(hf:FewH h m):∀x∈h,Wb x.val<=200/\Yd x.val<=2048:=λx hx=>by
  obtain⟨i,hi,rfl⟩:=List.getElem_of_mem hx;obtain⟨h1,-,h3⟩:=MQ hm (hf.2 i hi).1;have:=XB h[i].val h3;exact⟨by omega,by omega⟩
theorem HQ{h:List Cm}(hs:∀x∈h,Wb x.val<=200/\Yd x.val<=2048):∀x∈h,Xm x:=λx hx=>⟨by have:=(hs x hx).1;omega,Hk _ (by have:=(hs x hx).2;omega)⟩
open Go.RowKit
def KT(l:MapL)(k:Str)(v:Value):MapL:=match l.findIdx? (λx=>decide (x.1=k))with
  | some i=>l.set i (k,v)
  | none=>l++[(k,v)]
theorem NL{l:MapL}{k:Str}{i:Nat}(h:l.findIdx? (λx=>decide (x.1=k))=some i):∃hi:i<l.length,l[i].1=k:=by
  obtain⟨hi,h1,-⟩:=List.findIdx?_eq_some_iff_getElem.1 h;exact⟨hi,by simpa using h1⟩
theorem Tm(x:Str × Value)(l:MapL)(k:Str):Lg (x::l) k=if x.1=k then some x.2 else Lg l k:=by
  unfold Lg;rw[List.find?_cons];by_cases h:x.1=k <;> simp[h]
theorem LD(v:Value)(k k':Str):∀l:MapL,Lg (KT l k v) k'=if k=k' then some v else Lg l k'
  | [] => by
    have e:KT [] k v=[(k,v)]:=rfl;rw[e,Tm]
  | x :: l => by
    have ih:=LD v k k' l;unfold KT at ih ⊢;rw[List.findIdx?_cons];by_cases h:x.1=k
    ·simp only[h, decide_true, if_true, List.set_cons_zero]
     rw[Tm,Tm];by_cases h2:k=k'
     ·rw[if_pos h2,if_pos h2]
     rw[if_neg h2,if_neg h2,if_neg (λe=>h2 (h▸e))]
    simp only[h, decide_false, Bool.false_eq_true, if_false];cases hf:l.findIdx? (λx=>decide (x.1=k))with
    | none =>
      rw[hf]at ih;simp only[Option.map_none,List.cons_append]at ih ⊢;rw[Tm,ih,Tm];by_cases h2:x.1=k'
      ·rw[if_pos h2,if_neg (λe=>h (h2.trans e.symm)),if_pos h2]
      rw[if_neg h2,if_neg h2]
    | some i =>
      rw[hf]at ih;simp only[Option.map_some,List.set_cons_succ]at ih ⊢;rw[Tm,ih,Tm];by_cases h2:x.1=k'
      ·rw[if_pos h2,if_neg (λe=>h (h2.trans e.symm)),if_pos h2]
      rw[if_neg h2,if_neg h2]
section
variable {P:Program}{R:Exit->Act->World->Prop}{n:Nat}{k:Kt}{s:Nat->Value}{w:World}{ops rest:List Oper}
variable {d:Nat}{ty:TypeId}{pos:String}{aft:Array Edge}{g:Option (Nat × Bool)}
variable {w0:World}{Ds:List Nat}{bs_:List (Nat × Obj)}{ρ:Operand->Value}{dst:Option Nat}
end
structure Cv where
  A:Option Addr
  n:Nat
  c:Nat
  k:Int
  x:Sv
  y:Sv
  z:Sv
abbrev Cv.cells(q:Cv):List Value:=[.slice q.A q.n q.c,J q.k]++th q.x q.y q.z
structure CvOf (S:Nat->Prop) (w:World) (c:Cf) (q:Cv):Prop where
  n:q.n=c.path.length
  k:q.k=c.cls
  p:Rep S w (Xd c.path) [.slice q.A q.n q.c]
  x:Rep S w (He c.b) q.x.cells
  y:Rep S w (He c.l) q.y.cells
  z:Rep S w (He c.r) q.z.cells
theorem cf_open{S:Nat->Prop}{w:World}{c:Cf}{cs:List Value}(h:Rep S w (OJ c) cs):∃q:Cv,cs=q.cells/\CvOf S w c q:=by
  unfold OJ at h;rw[Rep]at h;obtain⟨c1,d1,rfl,h1,h⟩:=RepL.cons_inv h;obtain⟨c2,d2,rfl,h2,h⟩:=RepL.cons_inv h;obtain⟨c3,d3,rfl,h3,h⟩:=RepL.cons_inv h;obtain⟨c4,d4,rfl,h4,h⟩:=RepL.cons_inv h;obtain⟨c5,d5,rfl,h5,h⟩:=RepL.cons_inv h;obtain rfl:=RepL.nil_inv h;obtain⟨A,n,rfl⟩:∃A e,c1=[.slice A c.path.length e]:=by
    have h1':=h1;unfold Xd at h1';rw[Rep]at h1';obtain⟨A,c,rfl,-⟩:=h1';exact⟨A,c,by rw[rQ]⟩
  obtain rfl:c2=[J c.cls]:=by
    unfold Zd at h2;rw[Rep]at h2;exact h2.1
  obtain⟨x,rfl,-⟩:=FF h3;obtain⟨y,rfl,-⟩:=FF h4;obtain⟨z,rfl,-⟩:=FF h5;exact⟨⟨A,c.path.length,n,c.cls,x,y,z⟩,by simp,⟨O,O,h1,h3,h4,h5⟩⟩
theorem CvOf.ext{S:Nat->Prop}{w w':World}{c:Cf}{q:Cv}(h:CvOf S w c q)(hs:Same [] w w'):CvOf S w' c q:=⟨h.n,h.k,h.p.ext hs,h.x.ext hs,h.y.ext hs,h.z.ext hs⟩
theorem Rep.cf_elem{S:Nat->Prop}{w:World}{l:List Cf}{A:Option Addr}{len c:Nat}(h:Rep S w (.slice (l.map OJ)) [.slice A len c]){i:Nat}(hi:i<l.length) :
    ∃(ad:Addr)(q:Cv),A=some ad/\(∀j (hj:j<q.cells.length),w.cell? ((ad.add (i*17)).add j)=some q.cells[j])/\CvOf S w l[i] q:=by
  obtain⟨ad,cs,hA,hl,hc,hr⟩:=Rep.elem (sz:=17) h (λd hd=>by obtain⟨k,_,rfl⟩:=nQ.1 hd;exact RZ k) (i:=i) (by simpa using hi);rw[List.getElem_map]at hr;obtain⟨q,rfl,hq⟩:=cf_open hr;exact⟨ad,q,hA,hc,hq⟩
structure CfOk (c:Cf):Prop where
  b:SdOk c.b
  l:SdOk c.l
  r:SdOk c.r
theorem CfOk.all{c:Cf}(h:CfOk c):∀s∈[c.b,c.l,c.r],SdOk s:=by
  intro s hs;simp only[oQ,List.not_mem_nil,or_false]at hs;rcases hs with rfl|rfl|rfl
  ·exact h.b
  ·exact h.l
  exact h.r
theorem YY(v:Value)(k:Str):∀m:MapL,(KT m k v).length=m.length+if Lg m k=none then 1 else 0:=λm=>by
  have h:=Tx m k;unfold KT;cases hf:m.findIdx? (λx=>decide (x.1=k))with
  | none=>rw[hf]at h;rw[<-h];simp
  | some i =>
    obtain⟨hi,-⟩:=NL hf;rw[hf]at h;rw[<-h];simp[hi]
structure CntM (m:MapL) (l:List Str):Prop where
  get:∀t,Lg m t=if t∈l then some (J (l.count t:Int)) else none
  len:m.length=l.eraseDups.length
theorem CntM.nil:CntM [] []:=⟨λt=>by simp[Lg],rfl⟩
theorem CntM.val{m:MapL}{l:List Str}(h:CntM m l)(t:Str):(Lg m t).getD (J 0)=J ((l.count t:Nat):Int):=by
  rw[h.get];by_cases ht:t∈l
  ·rw[if_pos ht];rfl
  rw[if_neg ht,List.count_eq_zero.2 ht];rfl
theorem CntM.add{m:MapL}{l:List Str}(h:CntM m l)(t:Str):CntM (KT m t (J (((l.count t+1:Nat)):Int))) (l++[t]):=by
  refine⟨λk=>?_,?_⟩
  ·rw[LD]
   by_cases e:t=k
   ·subst e
    rw[if_pos rfl,if_pos Da];simp
   rw[if_neg e, h.get, List.count_append, List.count_singleton];have e':(t==k)=false:=by simpa using e
   rw[e'];simp[Ne.symm e]
  rw[YY, h.len, h.get, List.eraseDups_append, dQ];by_cases ht:t∈l
  ·rw[if_pos ht]
   have:[t].removeAll l=[]:=by simp[List.removeAll,ht]
   rw[this];simp
  rw[if_neg ht];have:[t].removeAll l=[t]:=by simp[List.removeAll,ht]
  rw[this];rfl
end Go.Scarf
