/- A part of the proof. -/
import Derived.Test.YtbhneplafiapdaaGreatDoorHi11
import Derived.Test.YtbhneplafiapdaaGreatDoorIh
import Derived.Test.YtbhneplafiapdaaGreatDoorHi8
set_option linter.all false
set_option maxHeartbeats 8000000
set_option maxRecDepth 10000
namespace Go.Scarf
open Go.RowKit Go.Proofs Go.Proofs.Tryz
attribute [local irreducible] B1 NI
abbrev Xo(i:UInt8):Tree:=.node 3 [i] [] []
abbrev Wn(i:UInt8):Tv:=⟨3,[i],none,0,0,none,0,0⟩
theorem Kl{S:Nat->Prop}{w:World}(i:UInt8):Rep S w (Pb (Xo i)) (Wn i).cells:=Rep.tree_mk ⟨by decide,by decide⟩ Pa (Rep.nil_slice 0 Ca none) (Rep.nil_slice 0 Ca none)
def Lo:List Cm:=[⟨[],Xo 49⟩,⟨[0],Xo 49⟩,⟨[0],Xo 50⟩,⟨[1,2],Xo 49⟩,⟨[1,2],Xo 51⟩]
theorem Iy:Rb Lo=true:=by kernel_rfl
theorem Xk:∀x∈Lo,Tg x:=λx hx=>by
  have h:∀x∈Lo,Jb x.val<=1000/\Zd x.val<=1000:=of_decide_eq_true (show decide (∀x∈Lo,Jb x.val<=1000/\Zd x.val<=1000)=true by kernel_rfl);have:=h x hx;exact⟨by omega,Ii _ Ca⟩
theorem PB:∀k (hk:k<Lo.length),Jb Lo[k].val<=256/\Zd Lo[k].val<=16777216:=λk hk=>by
  have h:∀x∈Lo,Jb x.val<=1000/\Zd x.val<=1000:=of_decide_eq_true (show decide (∀x∈Lo,Jb x.val<=1000/\Zd x.val<=1000)=true by kernel_rfl);have h2:∀x∈Lo,Jb x.val<=256:=of_decide_eq_true (show decide (∀x∈Lo,Jb x.val<=256)=true by kernel_rfl);have:=h _ (eQ hk);have:=h2 _ (eQ hk);omega
theorem V2:(List.range Lo.length).filter (Of Lo 1 2)=[0]:=by kernel_rfl
theorem BB:Bj Lo 3 4=[1,2]:=by kernel_rfl
theorem U_:Em Lo 3=[0,1,2,3]:=by kernel_rfl
theorem DA:Oj [] Lo[0].val Lo[1].val Lo[2].val=(Xo 50,[],0):=by kernel_rfl
theorem CI:Gu Lo ⟨[3,4],Xo 49⟩=0:=by kernel_rfl
theorem E8:Gu Lo ⟨[5],Xo 49⟩=1:=by kernel_rfl
theorem El{w0 w:World}{bs_:List (Nat × Obj)}(hF:FR w0 [] bs_ w){b:Nat}(l:List Int)(hm:∀z∈l,-1000<=z/\z<=1000)(hl:l.length<=1000)(i:Nat)(hb:bs_[i]? = some (b,.cells (l.map λs=>Value.int .i64 s).toArray 3)):Rep (PN w0 [] w) w (.slice (l.map Lc)) [W b l.length l.length] :=
  (hF.rowX (ids:=[]) i hb (RX.plain λ_=>Pk λz hz=>by have:=hm z hz;omega) Pa Pa Ca).rep
theorem ZP(i:UInt8):Tg ⟨[3,4],Xo i⟩/\Tg ⟨[5],Xo i⟩:=by
  have h:Jb (Xo i)<=1/\Zd (Xo i)<=1:=by simp[Jb,Cb,Zd,Nk,Vh]
  exact⟨⟨by show Jb (Xo i)<=_;omega,Ii _ (by show Zd (Xo i)<=_;omega)⟩,by show Jb (Xo i)<=_;omega,Ii _ (by show Zd (Xo i)<=_;omega)⟩
def RM(v:Value):Value->World->Prop:=λu _=>u=v
def CN(l:List Int):Value->World->Prop:=λu w=>∃b,u=W b l.length l.length/\w.heap[b]? = some (.cells (l.map λs=>Value.int .i64 s).toArray 3)
def TK(x:Cm):Value->World->Prop:=λu w=>∃q:Mv,u=.agg q.cells.toArray/\Rep (λ_=>True) w (cmD x) q.cells
def UQ(l:List Cm):Value->World->Prop:=λu w=>∃A c,u=.slice A l.length c/\Rep (λ_=>True) w (Zk l) [.slice A l.length c]
theorem Du{v:Value}:∀u w w',Same [] w w'->RM v u w->RM v u w':=λ_ _ _ _ h=>h
theorem F0{l:List Int}:∀u w w',Same [] w w'->CN l u w->CN l u w':=λ_ _ _ hs ⟨b,e,h⟩=>⟨b,e,(hs.block b (Qa h) Pa).trans h⟩
theorem Nv{x:Cm}:∀u w w',Same [] w w'->TK x u w->TK x u w':=λ_ _ _ hs ⟨q,e,h⟩=>⟨q,e,h.ext hs⟩
theorem QD{l:List Cm}:∀u w w',Same [] w w'->UQ l u w->UQ l u w':=λ_ _ _ hs ⟨A,c,e,h⟩=>⟨A,c,e,h.ext hs⟩
theorem Et{l:List Int}{b:Nat}{w:World}(h:w.heap[b]? = some (.cells (l.map λs=>Value.int .i64 s).toArray 3))(hm:∀z∈l,-1000<=z/\z<=1000)(hl:l.length<=1000):Rep (λ_=>True) w (.slice (l.map Lc)) [W b l.length l.length] :=
  M9 h (Pk λz hz=>by have:=hm z hz;omega) Pa Ca
def l31:List FactH:=[(0,13,RM (.agg (Wn 49).cells.toArray)),(1,14,TK ⟨[],Xo 49⟩),(2,15,CN [0]),(3,16,RM (.agg (Wn 49).cells.toArray)),(4,17,TK ⟨[0],Xo 49⟩),(5,18,CN [0]),(6,19,RM (.agg (Wn 50).cells.toArray)),(7,20,TK ⟨[0],Xo 50⟩),(8,21,CN [1,2]),(9,22,RM (.agg (Wn 49).cells.toArray)),(10,23,TK ⟨[1,2],Xo 49⟩),(11,24,CN [1,2]),(12,25,RM (.agg (Wn 51).cells.toArray)),(13,26,TK ⟨[1,2],Xo 51⟩),(14,27,UQ Lo),(15,2,UQ Lo)]
theorem CR(b1:Nat):PhH [(1,V b1)] l31:=⟨by
  unfold l31;simp only[List.forall_mem_cons,List.not_mem_nil,false_imp_iff,implies_true,and_true];exact⟨Du,Nv,F0,Du,Nv,F0,Du,Nv,F0,Du,Nv,F0,Du,Nv,QD,QD⟩,by kernel_rfl⟩
theorem O4{x y:Tv}(h:x.cells=y.cells):y=x:=by
  obtain⟨k,t,A,n,c,B,m,e⟩:=x;obtain⟨k',t',A',n',c',B',m',e'⟩:=y;simp only[Tv.cells,List.cons.injEq,Value.int.injEq,Value.string.injEq,Value.slice.injEq,true_and,and_true]at h;obtain⟨rfl,h2,⟨rfl,rfl,rfl⟩,rfl,rfl,rfl⟩:=h;have:t=t':=by
    have:=congrArg (λb:ByteArray=>b.data.toList) h2;simpa using this
  rw[this]
theorem Rep.keepB{w0 w1 w w':World}{d:D}{cs:List Value}(h:Rep (Btw w0 w1) w d cs)(hs:Same [] w w'):Rep (Btw w0 w1) w' d cs:=Rep.same h hs Pa
theorem UA(w0:World)(hG:Gl w0):Calls prog 6 #[] w0 (Pd λv w'=>v=.bool true/\Same [] w0 w'):=by
  refine Ia func6 O ntmps6 Kb (YM) ?_;have hF:=FR.start w0 [];refine Ha (Ja ?_);refine Da (Ob O) (Db ?_);refine Fa (Ha ?_);refine Ja (Ra hF (Hh (v':=.agg (Wn 49).cells.toArray) (AC 1 Ca Ca _ (hG.ext hF.same)) Cc) (Ua DE O O) ?_);intro w hF;refine Wl hF oZ bZ O ?_;intro b1 w hb1 hF hE;refine Db (Fa ?_);refine Ha (Ol (λσ w=>∃(Ah:Option Addr),∃(ch:Nat),(Rep (λ_=>True) w (Zk Lo) [.slice Ah Lo.length ch])/\AllEq σ [(1,V b1),(2,.slice Ah Lo.length ch)]/\FR w0 [] [(b1,.cells #[J 3,I [49],aQ,aQ] 27)] w) ?_ ?_)
  ·
   have hF:=hF.drew;have hp:=CR b1;refine GP 16 (Inv:=IH w.drew [(1,V b1)] l31) Cc Cc (IH.start NP O) ?_ ?_
   ·exact (Pf (Pf (Pf (Pf (Pf (Pf (Pf (Pf (Pf (Pf (Pf (Pf (Pf (Pf (Pf (Pf SH
      (Aq hp 0 rfl rfl (λS s w hd hI=>⟨[(1,V b1)],.agg (Wn 49).cells.toArray,w,⟨hI.1.1,trivial⟩,λs=>Fb (l:=(Wn 49).cells) vQ bZ rfl rfl ((hF.ext hI.2.1).cellsAll 0 rfl),Same.refl _ _,rfl⟩)))
      (Aq hp 1 rfl rfl (λS s w hd hI=>⟨[(13,.agg (Wn 49).cells.toArray)],.agg (Mv.mk none 0 0 (Wn 49)).cells.toArray,w,⟨hI.dep hd 0 rfl rfl,trivial⟩,λs=>by kernel_rfl,Same.refl _ _,⟨none,0,0,Wn 49⟩,rfl,Yx (x:=⟨[],Xo 49⟩) rfl (Rep.nil_slice 0 Ca none) (Kl 49)⟩)))
      (Aq hp 2 rfl rfl (λS s w hd hI=>⟨[],.slice (some ⟨w.heap.size,0,none⟩) 1 1,w.alloc (.cells (([0]:List Int).map λs=>Value.int .i64 s).toArray 3),trivial,λs=>Gc (cs:=(([0]:List Int).map λs=>Value.int .i64 s).toArray) gZ cZ pZ Ub Ub Cc,(Same.alloc w _).mono Pa,w.heap.size,rfl,heap_alloc_new w _⟩)))
      (Aq hp 3 rfl rfl (λS s w hd hI=>⟨[(1,V b1)],.agg (Wn 49).cells.toArray,w,⟨hI.1.1,trivial⟩,λs=>Fb (l:=(Wn 49).cells) vQ bZ rfl rfl ((hF.ext hI.2.1).cellsAll 0 rfl),Same.refl _ _,rfl⟩)))
      (Aq hp 4 rfl rfl (λS s w hd hI=>by
        obtain⟨b,e1,hb⟩:=hI.dep hd 2 rfl rfl;exact⟨[(15,W b 1 1),(16,.agg (Wn 49).cells.toArray)],.agg (Mv.mk (some ⟨b,0,none⟩) 1 1 (Wn 49)).cells.toArray,w,⟨e1,hI.dep hd 3 O O,trivial⟩,λs=>by kernel_rfl,Same.refl _ _,⟨some ⟨b,0,none⟩,1,1,Wn 49⟩,O,Yx (x:=⟨[0],Xo 49⟩) O (Et (l:=[0]) hb Ub Ub) (Kl 49)⟩)))
      (Aq hp 5 rfl rfl (λS s w hd hI=>⟨[],.slice (some ⟨w.heap.size,0,none⟩) 1 1,w.alloc (.cells (([0]:List Int).map λs=>Value.int .i64 s).toArray 3),trivial,λs=>Gc (cs:=(([0]:List Int).map λs=>Value.int .i64 s).toArray) gZ cZ pZ Ub Ub Cc,(Same.alloc w _).mono Pa,w.heap.size,rfl,heap_alloc_new w _⟩)))
      (ZE hp 6 rfl rfl (λS s w hd hI=>⟨25,_,w,_,Hh (v':=.agg (Wn 50).cells.toArray) (AC 2 Ca Ca w (hG.ext (hF.same.trans hI.2.1))) Cc,Ua DE rfl rfl,λv w'' h=>⟨h.2,h.1⟩⟩)))
      (Aq hp 7 rfl rfl (λS s w hd hI=>by
        obtain⟨b,e1,hb⟩:=hI.dep hd 5 rfl rfl;exact⟨[(18,W b 1 1),(19,.agg (Wn 50).cells.toArray)],.agg (Mv.mk (some ⟨b,0,none⟩) 1 1 (Wn 50)).cells.toArray,w,⟨e1,hI.dep hd 6 O O,trivial⟩,λs=>by kernel_rfl,Same.refl _ _,⟨some ⟨b,0,none⟩,1,1,Wn 50⟩,O,Yx (x:=⟨[0],Xo 50⟩) O (Et (l:=[0]) hb Ub Ub) (Kl 50)⟩)))
      (Aq hp 8 rfl rfl (λS s w hd hI=>⟨[],.slice (some ⟨w.heap.size,0,none⟩) 2 2,w.alloc (.cells (([1,2]:List Int).map λs=>Value.int .i64 s).toArray 3),trivial,λs=>Gc (cs:=(([1,2]:List Int).map λs=>Value.int .i64 s).toArray) gZ cZ pZ Ub Ub Cc,(Same.alloc w _).mono Pa,w.heap.size,rfl,heap_alloc_new w _⟩)))
      (Aq hp 9 rfl rfl (λS s w hd hI=>⟨[(1,V b1)],.agg (Wn 49).cells.toArray,w,⟨hI.1.1,trivial⟩,λs=>Fb (l:=(Wn 49).cells) vQ bZ rfl rfl ((hF.ext hI.2.1).cellsAll 0 rfl),Same.refl _ _,rfl⟩)))
      (Aq hp 10 rfl rfl (λS s w hd hI=>by
        obtain⟨b,e1,hb⟩:=hI.dep hd 8 rfl rfl;exact⟨[(21,W b 2 2),(22,.agg (Wn 49).cells.toArray)],.agg (Mv.mk (some ⟨b,0,none⟩) 2 2 (Wn 49)).cells.toArray,w,⟨e1,hI.dep hd 9 O O,trivial⟩,λs=>by kernel_rfl,Same.refl _ _,⟨some ⟨b,0,none⟩,2,2,Wn 49⟩,O,Yx (x:=⟨[1,2],Xo 49⟩) O (Et (l:=[1,2]) hb Ub Ub) (Kl 49)⟩)))
      (Aq hp 11 rfl rfl (λS s w hd hI=>⟨[],.slice (some ⟨w.heap.size,0,none⟩) 2 2,w.alloc (.cells (([1,2]:List Int).map λs=>Value.int .i64 s).toArray 3),trivial,λs=>Gc (cs:=(([1,2]:List Int).map λs=>Value.int .i64 s).toArray) gZ cZ pZ Ub Ub Cc,(Same.alloc w _).mono Pa,w.heap.size,rfl,heap_alloc_new w _⟩)))
      (ZE hp 12 rfl rfl (λS s w hd hI=>⟨25,_,w,_,Hh (v':=.agg (Wn 51).cells.toArray) (AC 3 Ca Ca w (hG.ext (hF.same.trans hI.2.1))) Cc,Ua DE rfl rfl,λv w'' h=>⟨h.2,h.1⟩⟩)))
      (Aq hp 13 rfl rfl (λS s w hd hI=>by
        obtain⟨b,e1,hb⟩:=hI.dep hd 11 rfl rfl;exact⟨[(24,W b 2 2),(25,.agg (Wn 51).cells.toArray)],.agg (Mv.mk (some ⟨b,0,none⟩) 2 2 (Wn 51)).cells.toArray,w,⟨e1,hI.dep hd 12 O O,trivial⟩,λs=>by kernel_rfl,Same.refl _ _,⟨some ⟨b,0,none⟩,2,2,Wn 51⟩,O,Yx (x:=⟨[1,2],Xo 51⟩) O (Et (l:=[1,2]) hb Ub Ub) (Kl 51)⟩)))
      (Aq hp 14 rfl rfl (λS s w hd hI=>by
        obtain⟨q0,e0,r0⟩:=hI.dep hd 1 rfl rfl;obtain⟨q1,e1,r1⟩:=hI.dep hd 4 rfl rfl;obtain⟨q2,e2,r2⟩:=hI.dep hd 7 rfl rfl;obtain⟨q3,e3,r3⟩:=hI.dep hd 10 rfl rfl;obtain⟨q4,e4,r4⟩:=hI.dep hd 13 rfl rfl;have hs:Same [] w (w.alloc (.cells ((q0.cells++(q1.cells++(q2.cells++(q3.cells++(q4.cells++[])))))).toArray 29)):=(Same.alloc w _).mono Pa;exact⟨[(14,.agg q0.cells.toArray),(17,.agg q1.cells.toArray),(20,.agg q2.cells.toArray),(23,.agg q3.cells.toArray),(26,.agg q4.cells.toArray)],.slice (some ⟨w.heap.size,0,none⟩) 5 5,w.alloc (.cells ((q0.cells++(q1.cells++(q2.cells++(q3.cells++(q4.cells++[])))))).toArray 29),⟨e0,e1,e2,e3,e4,trivial⟩,λs=>Gc (cs:=((q0.cells++(q1.cells++(q2.cells++(q3.cells++(q4.cells++[])))))).toArray) fZ sizeOf29 zeroValue29 Ub Ub Cc,hs,some ⟨w.heap.size,0,none⟩,5,O,M9 (heap_alloc_new w _) (RepL.cons_mk (r0.ext hs) (RepL.cons_mk (r1.ext hs) (RepL.cons_mk (r2.ext hs) (RepL.cons_mk (r3.ext hs) (RepL.cons_mk (r4.ext hs) RepL.nil_mk))))) O Ub⟩)))
      (Aq hp 15 rfl rfl (λS s w hd hI=>⟨[(27,s 27)],s 27,w,NP,λs'=>Sf rfl,Same.refl _ _,hI.dep hd 14 rfl rfl⟩)))
   intro s w h;obtain⟨Ah,ch,e,hX⟩:=h.2.2 15 _ rfl rfl;exact Dc ⟨Ah,ch,hX,⟨h.1.1,e,trivial⟩,hF.ext h.2.1⟩
  rintro σ w ⟨Ah,ch,hX,hs,hF⟩;refine Eg.slots hs ?_;clear hs;intro σ;refine Fa (Ha ?_);refine Ja (Da (Od O) ?_);refine Zb (H9 Lo Iy Xk 1 2 0 Ub Ub V2 Ah ch _ _ hX (hG.ext hF.same)) (It EJ O O O O O) ?_;rintro _ w ⟨qa,rfl,hRt,hE⟩;obtain⟨x_,hx_,-,hqa,-⟩:=Ej (y:=Xo 49) hRt;obtain rfl:=O4 hx_;clear hRt hx_;have hX:=hX.ext hE;have hF:=hF.ext hE;refine Da (Ct O) (Da (GA O O) ?_);refine Da (Hw O O) (Wl hF oZ bZ O ?_);intro b2 w hb2 hF hE;have hX:=hX.ext hE;refine Da (Gd O) (Db ?_);refine Fa (Ha ?_);refine Ja (Da (Od O) ?_);refine Zb (DF Lo Iy Xk 1 2 0 Ub Ub V2 Ub _ DA (λ_=>GH [] 39 _ _ _ (.inr (.inl Cc))) PB Ah ch _ _ hX (hG.ext hF.same)) (It HP O O O O O) ?_;rintro _ w ⟨qb,Ac,cc,rfl,hRt,-,hE⟩;obtain⟨x_,hx_,-,hqb,-⟩:=Ej (y:=Xo 50) hRt;obtain rfl:=O4 hx_;clear hRt hx_;have hX:=hX.ext hE;have hF:=hF.ext hE;refine Da (Ct O) (Da (GA O O) ?_);refine Da (VQ O O) (Da (Hw O O) ?_);refine Wl hF oZ bZ O ?_;intro b3 w hb3 hF hE;have hX:=hX.ext hE;refine Da (Wj O) (Da (Gd O) ?_);refine Db (Fa ?_);refine Ha (Ja ?_);refine Da (Od O) (Fi 2 hF (Gc (cs:=#[J 3,J 4]) gZ cZ pZ Ub Ub Cc) ?_);intro b4 w hb4 hF hE;have hX:=hX.ext hE;refine Xd (Lj vQ bZ O hF.F 3 O O) (Oa (w':=w) (v:=.agg #[W b4 2 2,J 3,I [49],aQ,aQ]) Cc ?_);refine Zb (IE Lo ⟨[3,4],Xo 49⟩ Ah ch ⟨some ⟨b4,0,none⟩,2,2,Wn 49⟩ _ (λb=>True) _ hX O ((El (b:=b4) hF [3,4] Ub Ub 0 O).weaken λ_ _ _=>trivial) (Kl 49) Xk (ZP 49).1 (hG.ext hF.same)) (Gb JK O O O) ?_;rintro _ w ⟨-,hA⟩;obtain⟨Ag,cg,sg,pg,hg,rfl,-,-,-,-,-,hE⟩:=hA CI;clear hA;have hX:=hX.ext hE;have hF:=hF.ext hE;refine Da (Ct O) (Da (VQ O O) ?_);refine Da (Hw O O) (Da (Wj O) ?_);refine Da (Gd O) (Db ?_);refine Fa (Ha ?_);refine Ja (Da (Od O) ?_);refine Fi 1 hF (Gc (cs:=#[J 5]) gZ cZ pZ Ub Ub Cc) ?_;intro b5 w hb5 hF hE;have hX:=hX.ext hE;refine Xd (Lj vQ bZ O hF.F 4 O O) (Oa (w':=w) (v:=.agg #[W b5 1 1,J 3,I [49],aQ,aQ]) Cc ?_)
  refine Zb (IE Lo ⟨[5],Xo 49⟩ Ah ch ⟨some ⟨b5,0,none⟩,1,1,Wn 49⟩ _ (λb=>True) _ hX O ((El (b:=b5) hF [5] Ub Ub 0 O).weaken λ_ _ _=>trivial) (Kl 49) Xk (ZP 49).2 (hG.ext hF.same)) (Gb JK O O O) ?_;rintro _ w ⟨hA,-⟩;obtain⟨rfl,hE⟩:=hA (by rw[E8];decide);rw[E8];clear hA;have hX:=hX.ext hE;have hF:=hF.ext hE;refine Da (Ct O) (Da (VQ O O) ?_);refine Da (Hw O O) (Da (Wj O) ?_);refine Da (Gd O) (Db ?_);refine Fa (Ha ?_);refine Ja (Da (Od O) ?_);refine Zb (Wt Lo Ah ch 3 4 Ca Ca _ _ hX Xk (hG.ext hF.same)) (Re WD O O O O) ?_;rintro _ w ⟨As,cs,rfl,hRs,hE⟩;rw[BB]at hRs ⊢;have hX:=hX.ext hE;have hF:=hF.ext hE;refine Fi 2 hF (Gc (cs:=#[J 1,J 2]) gZ cZ pZ Ub Ub Cc) ?_;intro b6 w hb6 hF hE;have hX:=hX.ext hE;have hRs:=hRs.keepB hE;refine Zb (show Calls prog 16 #[.slice As 2 cs,W b6 2 2] w (Pd λv w'=>v=.bool true/\Same [] w w') from Hh (v':=.bool true) (K6 _ _ _ [1,2] [1,2] _ _ _ _ hRs (El (b:=b6) hF [1,2] Ub Ub 0 O)) (congrArg Value.bool (decide_eq_true O))) (Gb FD O O O) ?_;rintro _ w ⟨rfl,hE⟩;have hF:=hF.ext hE;have hX:=hX.ext hE;have hRs:=hRs.keepB hE;refine Da (Yd O) (Da (Od O) ?_);refine Zb (Wu Lo Ah ch 3 Ca _ _ hX Xk (hG.ext hF.same)) (Gb G2 O O O) ?_;rintro _ w ⟨At,ct,rfl,hRt,hE⟩;rw[U_]at hRt ⊢;have hX:=hX.ext hE;have hF:=hF.ext hE;refine Fi 4 hF (Gc (cs:=#[J 0,J 1,J 2,J 3]) gZ cZ pZ Ub Ub Cc) ?_;intro b7 w hb7 hF hE;have hX:=hX.ext hE;have hRt:=hRt.keepB hE;refine Zb (show Calls prog 16 #[.slice At 4 ct,W b7 4 4] w (Pd λv w'=>v=.bool true/\Same [] w w') from Hh (v':=.bool true) (K6 _ _ _ [0,1,2,3] [0,1,2,3] _ _ _ _ hRt (El (b:=b7) hF [0,1,2,3] Ub Ub 0 O)) (congrArg Value.bool (decide_eq_true O))) (Gb FD O O O) ?_;rintro _ w ⟨rfl,hE⟩;have hF:=hF.ext hE;have hX:=hX.ext hE;have hRt:=hRt.keepB hE;refine Da (Sc O O) (Da (Yd O) ?_)
  refine Da (Bc O) (Oa (v:=.bool true) (Ug (Ir O O) Ub) ?_);refine Da (Sc O O) (Da (Yd O) ?_);refine Da (Ud Lf O) (Xd (Is zQ O hF.F 5 O O) ?_);refine Oa (v:=.bool true) (Ug (Z6 O O) hqa) (Da (Sc O O) ?_);refine Da (Yd O) (Da (Bc O) ?_);refine Oa (v:=.bool true) (Ug (Ir O O) Ub) (Da (Sc O O) ?_);refine Da (Yd O) (Da (Od O) ?_);refine Da (Bh underlying46 O) (Oa (v:=.bool true) (Ug (Ir O O) Ub) ?_);refine Da (Sc O O) (Da (Yd O) ?_);refine Da (Ud Lf O) (Xd (Is zQ O hF.F 4 O O) ?_);refine Oa (v:=.bool true) (Ug (Z6 O O) hqb) (Da (Sc O O) ?_);refine Da (Yd O) (Da (Bc O) ?_);refine Oa (v:=.bool true) (Ug (Ir O O) Ub) (Da (Sc O O) ?_);refine Da (Yd O) (Da (Od O) ?_);refine Da (Bh fZ O) (Oa (v:=.bool true) (Ug (Ir O O) Ub) ?_);refine Da (Sc O O) (Da (Yd O) ?_);refine Da (Bc O) (Oa (v:=.bool true) (Ug (Ir O O) Ub) ?_);refine Da (Sc O O) (Da (Ob O) ?_);refine Db (Fa ?_);refine Yc (v:=.bool true) O O ?_;exact⟨O,hF.same⟩
end Go.Scarf
