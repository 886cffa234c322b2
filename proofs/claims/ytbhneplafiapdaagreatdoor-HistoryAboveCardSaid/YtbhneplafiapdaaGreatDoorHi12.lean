/- A part of the proof. -/
import Derived.Test.YtbhneplafiapdaaGreatDoorHi11
import Derived.Test.YtbhneplafiapdaaGreatDoorIh
import Derived.Test.YtbhneplafiapdaaGreatDoorHi8
set_option linter.all false
set_option maxHeartbeats 8000000
set_option maxRecDepth 10000
namespace Go.Scarf
open Go.RowKit Go.Proofs Go.Proofs.Tryz
attribute [local irreducible] G4 PG
abbrev Oo(i:UInt8):Tree:=.node 3 [i] [] []
abbrev Eo(i:UInt8):Tv:=⟨3,[i],none,0,0,none,0,0⟩
theorem Tl{S:Nat->Prop}{w:World}(i:UInt8):Rep S w (Mb (Oo i)) (Eo i).cells:=Rep.tree_mk ⟨by decide,by decide⟩ Pa (Rep.nil_slice 0 Ca none) (Rep.nil_slice 0 Ca none)
def Jo:List Cm:=[⟨[],Oo 49⟩,⟨[0],Oo 49⟩,⟨[0],Oo 50⟩,⟨[1,2],Oo 49⟩,⟨[1,2],Oo 51⟩]
theorem Xy:Pb Jo=true:=by kernel_rfl
theorem Jk:∀x∈Jo,Sg x:=λx hx=>by
  have h:∀x∈Jo,Gb x.val<=1000/\Rd x.val<=1000:=of_decide_eq_true (show decide (∀x∈Jo,Gb x.val<=1000/\Rd x.val<=1000)=true by kernel_rfl);have:=h x hx;exact⟨by omega,Ze _ Ca⟩
theorem O_:∀k (hk:k<Jo.length),Gb Jo[k].val<=256/\Rd Jo[k].val<=16777216:=λk hk=>by
  have h:∀x∈Jo,Gb x.val<=1000/\Rd x.val<=1000:=of_decide_eq_true (show decide (∀x∈Jo,Gb x.val<=1000/\Rd x.val<=1000)=true by kernel_rfl);have h2:∀x∈Jo,Gb x.val<=256:=of_decide_eq_true (show decide (∀x∈Jo,Gb x.val<=256)=true by kernel_rfl);have:=h _ (eQ hk);have:=h2 _ (eQ hk);omega
theorem E3:(List.range Jo.length).filter (Ff Jo 1 2)=[0]:=by kernel_rfl
theorem UA:Gi Jo 3 4=[1,2]:=by kernel_rfl
theorem AA:Vl Jo 3=[0,1,2,3]:=by kernel_rfl
theorem JB:Kh [] Jo[0].val Jo[1].val Jo[2].val=(Oo 50,[],0):=by kernel_rfl
theorem RI:Av Jo ⟨[3,4],Oo 49⟩=0:=by kernel_rfl
theorem L8:Av Jo ⟨[5],Oo 49⟩=1:=by kernel_rfl
theorem Vi{w0 w:World}{bs_:List (Nat × Obj)}(hF:FR w0 [] bs_ w){b:Nat}(l:List Int)(hm:∀z∈l,-1000<=z/\z<=1000)(hl:l.length<=1000)(i:Nat)(hb:bs_[i]? = some (b,.cells (l.map λs=>Value.int .i64 s).toArray 3)):Rep (PQ w0 [] w) w (.slice (l.map Td)) [W b l.length l.length] :=
  (hF.rowX (ids:=[]) i hb (RX.plain λ_=>Nk λz hz=>by have:=hm z hz;omega) Pa Pa Ca).rep
theorem QN(i:UInt8):Sg ⟨[3,4],Oo i⟩/\Sg ⟨[5],Oo i⟩:=by
  have h:Gb (Oo i)<=1/\Rd (Oo i)<=1:=by simp[Gb,Za,Rd,Vk,Ph]
  exact⟨⟨by show Gb (Oo i)<=_;omega,Ze _ (by show Rd (Oo i)<=_;omega)⟩,by show Gb (Oo i)<=_;omega,Ze _ (by show Rd (Oo i)<=_;omega)⟩
def EM(v:Value):Value->World->Prop:=λu _=>u=v
def JN(l:List Int):Value->World->Prop:=λu w=>∃b,u=W b l.length l.length/\w.heap[b]? = some (.cells (l.map λs=>Value.int .i64 s).toArray 3)
def ZM(x:Cm):Value->World->Prop:=λu w=>∃q:Mv,u=.agg q.cells.toArray/\Rep (λ_=>True) w (cmD x) q.cells
def AR(l:List Cm):Value->World->Prop:=λu w=>∃A c,u=.slice A l.length c/\Rep (λ_=>True) w (Jl l) [.slice A l.length c]
theorem Cw{v:Value}:∀u w w',Same [] w w'->EM v u w->EM v u w':=λ_ _ _ _ h=>h
theorem J0{l:List Int}:∀u w w',Same [] w w'->JN l u w->JN l u w':=λ_ _ _ hs ⟨b,e,h⟩=>⟨b,e,(hs.block b (Qa h) Pa).trans h⟩
theorem Fw{x:Cm}:∀u w w',Same [] w w'->ZM x u w->ZM x u w':=λ_ _ _ hs ⟨q,e,h⟩=>⟨q,e,h.ext hs⟩
theorem YD{l:List Cm}:∀u w w',Same [] w w'->AR l u w->AR l u w':=λ_ _ _ hs ⟨A,c,e,h⟩=>⟨A,c,e,h.ext hs⟩
theorem Ht{l:List Int}{b:Nat}{w:World}(h:w.heap[b]? = some (.cells (l.map λs=>Value.int .i64 s).toArray 3))(hm:∀z∈l,-1000<=z/\z<=1000)(hl:l.length<=1000):Rep (λ_=>True) w (.slice (l.map Td)) [W b l.length l.length] :=
  V9 h (Nk λz hz=>by have:=hm z hz;omega) Pa Ca
def l31:List FactH:=[(0,13,EM (.agg (Eo 49).cells.toArray)),(1,14,ZM ⟨[],Oo 49⟩),(2,15,JN [0]),(3,16,EM (.agg (Eo 49).cells.toArray)),(4,17,ZM ⟨[0],Oo 49⟩),(5,18,JN [0]),(6,19,EM (.agg (Eo 50).cells.toArray)),(7,20,ZM ⟨[0],Oo 50⟩),(8,21,JN [1,2]),(9,22,EM (.agg (Eo 49).cells.toArray)),(10,23,ZM ⟨[1,2],Oo 49⟩),(11,24,JN [1,2]),(12,25,EM (.agg (Eo 51).cells.toArray)),(13,26,ZM ⟨[1,2],Oo 51⟩),(14,27,AR Jo),(15,2,AR Jo)]
theorem PR(b1:Nat):PhH [(1,V b1)] l31:=⟨by
  unfold l31;simp only[List.forall_mem_cons,List.not_mem_nil,false_imp_iff,implies_true,and_true];exact⟨Cw,Fw,J0,Cw,Fw,J0,Cw,Fw,J0,Cw,Fw,J0,Cw,Fw,YD,YD⟩,by kernel_rfl⟩
theorem V4{x y:Tv}(h:x.cells=y.cells):y=x:=by
  obtain⟨k,t,A,n,c,B,m,e⟩:=x;obtain⟨k',t',A',n',c',B',m',e'⟩:=y;simp only[Tv.cells,List.cons.injEq,Value.int.injEq,Value.string.injEq,Value.slice.injEq,true_and,and_true]at h;obtain⟨rfl,h2,⟨rfl,rfl,rfl⟩,rfl,rfl,rfl⟩:=h;have:t=t':=by
    have:=congrArg (λb:ByteArray=>b.data.toList) h2;simpa using this
  rw[this]
theorem Rep.keepB{w0 w1 w w':World}{d:D}{cs:List Value}(h:Rep (Btw w0 w1) w d cs)(hs:Same [] w w'):Rep (Btw w0 w1) w' d cs:=Rep.same h hs Pa
theorem HB(w0:World)(hG:Gl w0):Calls prog 6 #[] w0 (Hd λv w'=>v=.bool true/\Same [] w0 w'):=by
  refine Ga func6 O ntmps6 Ib (XM) ?_;have hF:=FR.start w0 [];refine Ja (Ma ?_);refine Da (Kb O) (Eb ?_);refine Ha (Ja ?_);refine Ma (Ra hF (Bi (v':=.agg (Eo 49).cells.toArray) (ND 1 Ca Ca _ (hG.ext hF.same)) Xb) (Sa JC O O) ?_);intro w hF;refine Zi hF oZ bZ O ?_;intro b1 w hb1 hF hE;refine Eb (Ha ?_);refine Ja (Qq (λσ w=>∃(Ah:Option Addr),∃(ch:Nat),(Rep (λ_=>True) w (Jl Jo) [.slice Ah Jo.length ch])/\AllEq σ [(1,V b1),(2,.slice Ah Jo.length ch)]/\FR w0 [] [(b1,.cells #[J 3,I [49],aQ,aQ] 27)] w) ?_ ?_)
  ·
   have hF:=hF.drew;have hp:=PR b1;refine KO 16 (Inv:=IH w.drew [(1,V b1)] l31) Xb Xb (IH.start OO O) ?_ ?_
   ·exact (Tf (Tf (Tf (Tf (Tf (Tf (Tf (Tf (Tf (Tf (Tf (Tf (Tf (Tf (Tf (Tf WI
      (Mp hp 0 rfl rfl (λS s w hd hI=>⟨[(1,V b1)],.agg (Eo 49).cells.toArray,w,⟨hI.1.1,trivial⟩,λs=>Db (l:=(Eo 49).cells) vQ bZ rfl rfl ((hF.ext hI.2.1).cellsAll 0 rfl),Same.refl _ _,rfl⟩)))
      (Mp hp 1 rfl rfl (λS s w hd hI=>⟨[(13,.agg (Eo 49).cells.toArray)],.agg (Mv.mk none 0 0 (Eo 49)).cells.toArray,w,⟨hI.dep hd 0 rfl rfl,trivial⟩,λs=>by kernel_rfl,Same.refl _ _,⟨none,0,0,Eo 49⟩,rfl,Sx (x:=⟨[],Oo 49⟩) rfl (Rep.nil_slice 0 Ca none) (Tl 49)⟩)))
      (Mp hp 2 rfl rfl (λS s w hd hI=>⟨[],.slice (some ⟨w.heap.size,0,none⟩) 1 1,w.alloc (.cells (([0]:List Int).map λs=>Value.int .i64 s).toArray 3),trivial,λs=>Dc (cs:=(([0]:List Int).map λs=>Value.int .i64 s).toArray) gZ cZ pZ Ob Ob Xb,(Same.alloc w _).mono Pa,w.heap.size,rfl,heap_alloc_new w _⟩)))
      (Mp hp 3 rfl rfl (λS s w hd hI=>⟨[(1,V b1)],.agg (Eo 49).cells.toArray,w,⟨hI.1.1,trivial⟩,λs=>Db (l:=(Eo 49).cells) vQ bZ rfl rfl ((hF.ext hI.2.1).cellsAll 0 rfl),Same.refl _ _,rfl⟩)))
      (Mp hp 4 rfl rfl (λS s w hd hI=>by
        obtain⟨b,e1,hb⟩:=hI.dep hd 2 rfl rfl;exact⟨[(15,W b 1 1),(16,.agg (Eo 49).cells.toArray)],.agg (Mv.mk (some ⟨b,0,none⟩) 1 1 (Eo 49)).cells.toArray,w,⟨e1,hI.dep hd 3 O O,trivial⟩,λs=>by kernel_rfl,Same.refl _ _,⟨some ⟨b,0,none⟩,1,1,Eo 49⟩,O,Sx (x:=⟨[0],Oo 49⟩) O (Ht (l:=[0]) hb Ob Ob) (Tl 49)⟩)))
      (Mp hp 5 rfl rfl (λS s w hd hI=>⟨[],.slice (some ⟨w.heap.size,0,none⟩) 1 1,w.alloc (.cells (([0]:List Int).map λs=>Value.int .i64 s).toArray 3),trivial,λs=>Dc (cs:=(([0]:List Int).map λs=>Value.int .i64 s).toArray) gZ cZ pZ Ob Ob Xb,(Same.alloc w _).mono Pa,w.heap.size,rfl,heap_alloc_new w _⟩)))
      (FG hp 6 rfl rfl (λS s w hd hI=>⟨25,_,w,_,Bi (v':=.agg (Eo 50).cells.toArray) (ND 2 Ca Ca w (hG.ext (hF.same.trans hI.2.1))) Xb,Sa JC rfl rfl,λv w'' h=>⟨h.2,h.1⟩⟩)))
      (Mp hp 7 rfl rfl (λS s w hd hI=>by
        obtain⟨b,e1,hb⟩:=hI.dep hd 5 rfl rfl;exact⟨[(18,W b 1 1),(19,.agg (Eo 50).cells.toArray)],.agg (Mv.mk (some ⟨b,0,none⟩) 1 1 (Eo 50)).cells.toArray,w,⟨e1,hI.dep hd 6 O O,trivial⟩,λs=>by kernel_rfl,Same.refl _ _,⟨some ⟨b,0,none⟩,1,1,Eo 50⟩,O,Sx (x:=⟨[0],Oo 50⟩) O (Ht (l:=[0]) hb Ob Ob) (Tl 50)⟩)))
      (Mp hp 8 rfl rfl (λS s w hd hI=>⟨[],.slice (some ⟨w.heap.size,0,none⟩) 2 2,w.alloc (.cells (([1,2]:List Int).map λs=>Value.int .i64 s).toArray 3),trivial,λs=>Dc (cs:=(([1,2]:List Int).map λs=>Value.int .i64 s).toArray) gZ cZ pZ Ob Ob Xb,(Same.alloc w _).mono Pa,w.heap.size,rfl,heap_alloc_new w _⟩)))
      (Mp hp 9 rfl rfl (λS s w hd hI=>⟨[(1,V b1)],.agg (Eo 49).cells.toArray,w,⟨hI.1.1,trivial⟩,λs=>Db (l:=(Eo 49).cells) vQ bZ rfl rfl ((hF.ext hI.2.1).cellsAll 0 rfl),Same.refl _ _,rfl⟩)))
      (Mp hp 10 rfl rfl (λS s w hd hI=>by
        obtain⟨b,e1,hb⟩:=hI.dep hd 8 rfl rfl;exact⟨[(21,W b 2 2),(22,.agg (Eo 49).cells.toArray)],.agg (Mv.mk (some ⟨b,0,none⟩) 2 2 (Eo 49)).cells.toArray,w,⟨e1,hI.dep hd 9 O O,trivial⟩,λs=>by kernel_rfl,Same.refl _ _,⟨some ⟨b,0,none⟩,2,2,Eo 49⟩,O,Sx (x:=⟨[1,2],Oo 49⟩) O (Ht (l:=[1,2]) hb Ob Ob) (Tl 49)⟩)))
      (Mp hp 11 rfl rfl (λS s w hd hI=>⟨[],.slice (some ⟨w.heap.size,0,none⟩) 2 2,w.alloc (.cells (([1,2]:List Int).map λs=>Value.int .i64 s).toArray 3),trivial,λs=>Dc (cs:=(([1,2]:List Int).map λs=>Value.int .i64 s).toArray) gZ cZ pZ Ob Ob Xb,(Same.alloc w _).mono Pa,w.heap.size,rfl,heap_alloc_new w _⟩)))
      (FG hp 12 rfl rfl (λS s w hd hI=>⟨25,_,w,_,Bi (v':=.agg (Eo 51).cells.toArray) (ND 3 Ca Ca w (hG.ext (hF.same.trans hI.2.1))) Xb,Sa JC rfl rfl,λv w'' h=>⟨h.2,h.1⟩⟩)))
      (Mp hp 13 rfl rfl (λS s w hd hI=>by
        obtain⟨b,e1,hb⟩:=hI.dep hd 11 rfl rfl;exact⟨[(24,W b 2 2),(25,.agg (Eo 51).cells.toArray)],.agg (Mv.mk (some ⟨b,0,none⟩) 2 2 (Eo 51)).cells.toArray,w,⟨e1,hI.dep hd 12 O O,trivial⟩,λs=>by kernel_rfl,Same.refl _ _,⟨some ⟨b,0,none⟩,2,2,Eo 51⟩,O,Sx (x:=⟨[1,2],Oo 51⟩) O (Ht (l:=[1,2]) hb Ob Ob) (Tl 51)⟩)))
      (Mp hp 14 rfl rfl (λS s w hd hI=>by
        obtain⟨q0,e0,r0⟩:=hI.dep hd 1 rfl rfl;obtain⟨q1,e1,r1⟩:=hI.dep hd 4 rfl rfl;obtain⟨q2,e2,r2⟩:=hI.dep hd 7 rfl rfl;obtain⟨q3,e3,r3⟩:=hI.dep hd 10 rfl rfl;obtain⟨q4,e4,r4⟩:=hI.dep hd 13 rfl rfl;have hs:Same [] w (w.alloc (.cells ((q0.cells++(q1.cells++(q2.cells++(q3.cells++(q4.cells++[])))))).toArray 29)):=(Same.alloc w _).mono Pa;exact⟨[(14,.agg q0.cells.toArray),(17,.agg q1.cells.toArray),(20,.agg q2.cells.toArray),(23,.agg q3.cells.toArray),(26,.agg q4.cells.toArray)],.slice (some ⟨w.heap.size,0,none⟩) 5 5,w.alloc (.cells ((q0.cells++(q1.cells++(q2.cells++(q3.cells++(q4.cells++[])))))).toArray 29),⟨e0,e1,e2,e3,e4,trivial⟩,λs=>Dc (cs:=((q0.cells++(q1.cells++(q2.cells++(q3.cells++(q4.cells++[])))))).toArray) fZ sizeOf29 zeroValue29 Ob Ob Xb,hs,some ⟨w.heap.size,0,none⟩,5,O,V9 (heap_alloc_new w _) (RepL.cons_mk (r0.ext hs) (RepL.cons_mk (r1.ext hs) (RepL.cons_mk (r2.ext hs) (RepL.cons_mk (r3.ext hs) (RepL.cons_mk (r4.ext hs) RepL.nil_mk))))) O Ob⟩)))
      (Mp hp 15 rfl rfl (λS s w hd hI=>⟨[(27,s 27)],s 27,w,OO,λs'=>Vf rfl,Same.refl _ _,hI.dep hd 14 rfl rfl⟩)))
   intro s w h;obtain⟨Ah,ch,e,hX⟩:=h.2.2 15 _ rfl rfl;exact Hc ⟨Ah,ch,hX,⟨h.1.1,e,trivial⟩,hF.ext h.2.1⟩
  rintro σ w ⟨Ah,ch,hX,hs,hF⟩;refine Eg.slots hs ?_;clear hs;intro σ;refine Ha (Ja ?_);refine Ma (Da (Wd O) ?_);refine Cc (K0 Jo Xy Jk 1 2 0 Ob Ob E3 Ah ch _ _ hX (hG.ext hF.same)) (Ml NE O O O O O) ?_;rintro _ w ⟨qa,rfl,hRt,hE⟩;obtain⟨x_,hx_,-,hqa,-⟩:=Jj (y:=Oo 49) hRt;obtain rfl:=V4 hx_;clear hRt hx_;have hX:=hX.ext hE;have hF:=hF.ext hE;refine Da (Yq O) (Da (E5 O O) ?_);refine Da (Rr O O) (Zi hF oZ bZ O ?_);intro b2 w hb2 hF hE;have hX:=hX.ext hE;refine Da (Gd O) (Eb ?_);refine Ha (Ja ?_);refine Ma (Da (Wd O) ?_);refine Cc (Dv Jo Xy Jk 1 2 0 Ob Ob E3 Ob _ JB (λ_=>B1 [] 39 _ _ _ (.inr (.inl Xb))) O_ Ah ch _ _ hX (hG.ext hF.same)) (Ml QF O O O O O) ?_;rintro _ w ⟨qb,Ac,cc,rfl,hRt,-,hE⟩;obtain⟨x_,hx_,-,hqb,-⟩:=Jj (y:=Oo 50) hRt;obtain rfl:=V4 hx_;clear hRt hx_;have hX:=hX.ext hE;have hF:=hF.ext hE;refine Da (Yq O) (Da (E5 O O) ?_);refine Da (NN O O) (Da (Rr O O) ?_);refine Zi hF oZ bZ O ?_;intro b3 w hb3 hF hE;have hX:=hX.ext hE;refine Da (Zj O) (Da (Gd O) ?_);refine Eb (Ha ?_);refine Ja (Ma ?_);refine Da (Wd O) (Ci 2 hF (Dc (cs:=#[J 3,J 4]) gZ cZ pZ Ob Ob Xb) ?_);intro b4 w hb4 hF hE;have hX:=hX.ext hE;refine Qd (Hj vQ bZ O hF.F 3 O O) (Oa (w':=w) (v:=.agg #[W b4 2 2,J 3,I [49],aQ,aQ]) Xb ?_);refine Cc (DD Jo ⟨[3,4],Oo 49⟩ Ah ch ⟨some ⟨b4,0,none⟩,2,2,Eo 49⟩ _ (λb=>True) _ hX O ((Vi (b:=b4) hF [3,4] Ob Ob 0 O).weaken λ_ _ _=>trivial) (Tl 49) Jk (QN 49).1 (hG.ext hF.same)) (Fb IK O O O) ?_;rintro _ w ⟨-,hA⟩;obtain⟨Ag,cg,sg,pg,hg,rfl,-,-,-,-,-,hE⟩:=hA RI;clear hA;have hX:=hX.ext hE;have hF:=hF.ext hE;refine Da (Yq O) (Da (NN O O) ?_);refine Da (Rr O O) (Da (Zj O) ?_);refine Da (Gd O) (Eb ?_);refine Ha (Ja ?_);refine Ma (Da (Wd O) ?_);refine Ci 1 hF (Dc (cs:=#[J 5]) gZ cZ pZ Ob Ob Xb) ?_;intro b5 w hb5 hF hE;have hX:=hX.ext hE;refine Qd (Hj vQ bZ O hF.F 4 O O) (Oa (w':=w) (v:=.agg #[W b5 1 1,J 3,I [49],aQ,aQ]) Xb ?_)
  refine Cc (DD Jo ⟨[5],Oo 49⟩ Ah ch ⟨some ⟨b5,0,none⟩,1,1,Eo 49⟩ _ (λb=>True) _ hX O ((Vi (b:=b5) hF [5] Ob Ob 0 O).weaken λ_ _ _=>trivial) (Tl 49) Jk (QN 49).2 (hG.ext hF.same)) (Fb IK O O O) ?_;rintro _ w ⟨hA,-⟩;obtain⟨rfl,hE⟩:=hA (by rw[L8];decide);rw[L8];clear hA;have hX:=hX.ext hE;have hF:=hF.ext hE;refine Da (Yq O) (Da (NN O O) ?_);refine Da (Rr O O) (Da (Zj O) ?_);refine Da (Gd O) (Eb ?_);refine Ha (Ja ?_);refine Ma (Da (Wd O) ?_);refine Cc (Uu Jo Ah ch 3 4 Ca Ca _ _ hX Jk (hG.ext hF.same)) (Ye HJ O O O O) ?_;rintro _ w ⟨As,cs,rfl,hRs,hE⟩;rw[UA]at hRs ⊢;have hX:=hX.ext hE;have hF:=hF.ext hE;refine Ci 2 hF (Dc (cs:=#[J 1,J 2]) gZ cZ pZ Ob Ob Xb) ?_;intro b6 w hb6 hF hE;have hX:=hX.ext hE;have hRs:=hRs.keepB hE;refine Cc (show Calls prog 16 #[.slice As 2 cs,W b6 2 2] w (Hd λv w'=>v=.bool true/\Same [] w w') from Bi (v':=.bool true) (M7 _ _ _ [1,2] [1,2] _ _ _ _ hRs (Vi (b:=b6) hF [1,2] Ob Ob 0 O)) (congrArg Value.bool (decide_eq_true O))) (Fb PF O O O) ?_;rintro _ w ⟨rfl,hE⟩;have hF:=hF.ext hE;have hX:=hX.ext hE;have hRs:=hRs.keepB hE;refine Da (Nd O) (Da (Wd O) ?_);refine Cc (Bu Jo Ah ch 3 Ca _ _ hX Jk (hG.ext hF.same)) (Fb AK O O O) ?_;rintro _ w ⟨At,ct,rfl,hRt,hE⟩;rw[AA]at hRt ⊢;have hX:=hX.ext hE;have hF:=hF.ext hE;refine Ci 4 hF (Dc (cs:=#[J 0,J 1,J 2,J 3]) gZ cZ pZ Ob Ob Xb) ?_;intro b7 w hb7 hF hE;have hX:=hX.ext hE;have hRt:=hRt.keepB hE;refine Cc (show Calls prog 16 #[.slice At 4 ct,W b7 4 4] w (Hd λv w'=>v=.bool true/\Same [] w w') from Bi (v':=.bool true) (M7 _ _ _ [0,1,2,3] [0,1,2,3] _ _ _ _ hRt (Vi (b:=b7) hF [0,1,2,3] Ob Ob 0 O)) (congrArg Value.bool (decide_eq_true O))) (Fb PF O O O) ?_;rintro _ w ⟨rfl,hE⟩;have hF:=hF.ext hE;have hX:=hX.ext hE;have hRt:=hRt.keepB hE;refine Da (Ec O O) (Da (Nd O) ?_)
  refine Da (Bc O) (Oa (v:=.bool true) (Df (Qm O O) Ob) ?_);refine Da (Ec O O) (Da (Nd O) ?_);refine Da (Ld Rf O) (Qd (Xs zQ O hF.F 5 O O) ?_);refine Oa (v:=.bool true) (Df (I7 O O) hqa) (Da (Ec O O) ?_);refine Da (Nd O) (Da (Bc O) ?_);refine Oa (v:=.bool true) (Df (Qm O O) Ob) (Da (Ec O O) ?_);refine Da (Nd O) (Da (Wd O) ?_);refine Da (Fh underlying46 O) (Oa (v:=.bool true) (Df (Qm O O) Ob) ?_);refine Da (Ec O O) (Da (Nd O) ?_);refine Da (Ld Rf O) (Qd (Xs zQ O hF.F 4 O O) ?_);refine Oa (v:=.bool true) (Df (I7 O O) hqb) (Da (Ec O O) ?_);refine Da (Nd O) (Da (Bc O) ?_);refine Oa (v:=.bool true) (Df (Qm O O) Ob) (Da (Ec O O) ?_);refine Da (Nd O) (Da (Wd O) ?_);refine Da (Fh fZ O) (Oa (v:=.bool true) (Df (Qm O O) Ob) ?_);refine Da (Ec O O) (Da (Nd O) ?_);refine Da (Bc O) (Oa (v:=.bool true) (Df (Qm O O) Ob) ?_);refine Da (Ec O O) (Da (Kb O) ?_);refine Eb (Ha ?_);refine Sc (v:=.bool true) O O ?_;exact⟨O,hF.same⟩
end Go.Scarf
