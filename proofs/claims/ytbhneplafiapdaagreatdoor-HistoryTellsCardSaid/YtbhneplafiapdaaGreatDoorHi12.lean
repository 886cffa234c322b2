/- A part of the proof. -/
import Derived.Test.YtbhneplafiapdaaGreatDoorHi11
import Derived.Test.YtbhneplafiapdaaGreatDoorIh
set_option linter.all false
set_option maxHeartbeats 8000000
set_option maxRecDepth 10000
namespace Go.Scarf
open Go.RowKit Go.Proofs Go.Proofs.Tryz
attribute [local irreducible] P8 OO
abbrev Xs(i:UInt8):Tree:=.node 3 [i] [] []
abbrev Vr(i:UInt8):Tv:=⟨3,[i],none,0,0,none,0,0⟩
theorem Dp{S:Nat->Prop}{w:World}(i:UInt8):Rep S w (Fc (Xs i)) (Vr i).cells:=Rep.tree_mk ⟨by decide,by decide⟩ Ua (Rep.nil_slice 0 U none) (Rep.nil_slice 0 U none)
def Bs:List Cm:=[⟨[],Xs 49⟩,⟨[0],Xs 49⟩,⟨[0],Xs 50⟩,⟨[1,2],Xs 49⟩,⟨[1,2],Xs 51⟩]
theorem C4:Pc Bs=true:=by kernel_rfl
theorem On:∀x∈Bs,Ai x:=λx hx=>by
  have h:∀x∈Bs,Ub x.val<=1000/\He x.val<=1000:=of_decide_eq_true (show decide (∀x∈Bs,Ub x.val<=1000/\He x.val<=1000)=true by kernel_rfl);have:=h x hx;exact⟨by omega,Uj _ U⟩
theorem VF:∀k (hk:k<Bs.length),Ub Bs[k].val<=256/\He Bs[k].val<=16777216:=λk hk=>by
  have h:∀x∈Bs,Ub x.val<=1000/\He x.val<=1000:=of_decide_eq_true (show decide (∀x∈Bs,Ub x.val<=1000/\He x.val<=1000)=true by kernel_rfl);have h2:∀x∈Bs,Ub x.val<=256:=of_decide_eq_true (show decide (∀x∈Bs,Ub x.val<=256)=true by kernel_rfl);have:=h _ (eQ hk);have:=h2 _ (eQ hk);omega
theorem K9:(List.range Bs.length).filter (Qh Bs 1 2)=[0]:=by kernel_rfl
theorem SF:Sm Bs 3 4=[1,2]:=by kernel_rfl
theorem CI:Qo Bs 3=[0,1,2,3]:=by kernel_rfl
theorem EH:Ts [] Bs[0].val Bs[1].val Bs[2].val=(Xs 50,[],0):=by kernel_rfl
theorem YP:Tk Bs ⟨[3,4],Xs 49⟩=0:=by kernel_rfl
theorem ID:Tk Bs ⟨[5],Xs 49⟩=1:=by kernel_rfl
theorem Po{w0 w:World}{bs_:List (Nat × Obj)}(hF:FR w0 [] bs_ w){b:Nat}(l:List Int)(hm:∀z∈l,-1000<=z/\z<=1000)(hl:l.length<=1000)(i:Nat)(hb:bs_[i]? = some (b,.cells (l.map λs=>Value.int .i64 s).toArray 3)):Rep (PY w0 [] w) w (.slice (l.map We)) [W b l.length l.length] :=
  (hF.rowX (ids:=[]) i hb (RX.plain λ_=>Xn λz hz=>by have:=hm z hz;omega) Ua Ua U).rep
theorem OY(i:UInt8):Ai ⟨[3,4],Xs i⟩/\Ai ⟨[5],Xs i⟩:=by
  have h:Ub (Xs i)<=1/\He (Xs i)<=1:=by simp[Ub,Ob,He,Rn,Gk]
  exact⟨⟨by show Ub (Xs i)<=_;omega,Uj _ (by show He (Xs i)<=_;omega)⟩,by show Ub (Xs i)<=_;omega,Uj _ (by show He (Xs i)<=_;omega)⟩
def GU(v:Value):Value->World->Prop:=λu _=>u=v
def NW(l:List Int):Value->World->Prop:=λu w=>∃b,u=W b l.length l.length/\w.heap[b]? = some (.cells (l.map λs=>Value.int .i64 s).toArray 3)
def ST(x:Cm):Value->World->Prop:=λu w=>∃q:Mv,u=.agg q.cells.toArray/\Rep (λ_=>True) w (cmD x) q.cells
def WZ(l:List Cm):Value->World->Prop:=λu w=>∃A c,u=.slice A l.length c/\Rep (λ_=>True) w (Xg l) [.slice A l.length c]
theorem Zz{v:Value}:∀u w w',Same [] w w'->GU v u w->GU v u w':=λ_ _ _ _ h=>h
theorem B6{l:List Int}:∀u w w',Same [] w w'->NW l u w->NW l u w':=λ_ _ _ hs ⟨b,e,h⟩=>⟨b,e,(hs.block b (Wa h) Ua).trans h⟩
theorem J1{x:Cm}:∀u w w',Same [] w w'->ST x u w->ST x u w':=λ_ _ _ hs ⟨q,e,h⟩=>⟨q,e,h.ext hs⟩
theorem TJ{l:List Cm}:∀u w w',Same [] w w'->WZ l u w->WZ l u w':=λ_ _ _ hs ⟨A,c,e,h⟩=>⟨A,c,e,h.ext hs⟩
theorem Py{l:List Int}{b:Nat}{w:World}(h:w.heap[b]? = some (.cells (l.map λs=>Value.int .i64 s).toArray 3))(hm:∀z∈l,-1000<=z/\z<=1000)(hl:l.length<=1000):Rep (λ_=>True) w (.slice (l.map We)) [W b l.length l.length] :=
  DE h (Xn λz hz=>by have:=hm z hz;omega) Ua U
def l31:List FactH:=[(0,13,GU (.agg (Vr 49).cells.toArray)),(1,14,ST ⟨[],Xs 49⟩),(2,15,NW [0]),(3,16,GU (.agg (Vr 49).cells.toArray)),(4,17,ST ⟨[0],Xs 49⟩),(5,18,NW [0]),(6,19,GU (.agg (Vr 50).cells.toArray)),(7,20,ST ⟨[0],Xs 50⟩),(8,21,NW [1,2]),(9,22,GU (.agg (Vr 49).cells.toArray)),(10,23,ST ⟨[1,2],Xs 49⟩),(11,24,NW [1,2]),(12,25,GU (.agg (Vr 51).cells.toArray)),(13,26,ST ⟨[1,2],Xs 51⟩),(14,27,WZ Bs),(15,2,WZ Bs)]
theorem ph31(b1:Nat):PhH [(1,V b1)] l31:=⟨by
  unfold l31;simp only[List.forall_mem_cons,List.not_mem_nil,false_imp_iff,implies_true,and_true];exact⟨Zz,J1,B6,Zz,J1,B6,Zz,J1,B6,Zz,J1,B6,Zz,J1,TJ,TJ⟩,by kernel_rfl⟩
theorem Q7{x y:Tv}(h:x.cells=y.cells):y=x:=by
  obtain⟨k,t,A,n,c,B,m,e⟩:=x;obtain⟨k',t',A',n',c',B',m',e'⟩:=y;simp only[Tv.cells,List.cons.injEq,Value.int.injEq,Value.string.injEq,Value.slice.injEq,true_and,and_true]at h;obtain⟨rfl,h2,⟨rfl,rfl,rfl⟩,rfl,rfl,rfl⟩:=h;have:t=t':=by
    have:=congrArg (λb:ByteArray=>b.data.toList) h2;simpa using this
  rw[this]
theorem Rep.keepB{w0 w1 w w':World}{d:D}{cs:List Value}(h:Rep (Btw w0 w1) w d cs)(hs:Same [] w w'):Rep (Btw w0 w1) w' d cs:=Rep.same h hs Ua
theorem UH(w0:World)(hG:Gl w0):Calls prog 6 #[] w0 (Vd λv w'=>v=.bool true/\Same [] w0 w'):=by
  refine Ka func6 O ntmps6 Mb (WU) ?_;have hF:=FR.start w0 [];refine Ha (Ea ?_);refine Ca (Eb O) (Ra ?_);refine Ga (Ha ?_);refine Ea (Ta hF (Xl (v':=.agg (Vr 49).cells.toArray) (AK 1 U U _ (hG.ext hF.same)) Nc) (Va EK O O) ?_);intro w hF;refine Vl hF vZ fZ O ?_;intro b1 w hb1 hF hE;refine Ra (Ga ?_);refine Ha (Ce (λσ w=>∃(Ah:Option Addr),∃(ch:Nat),(Rep (λ_=>True) w (Xg Bs) [.slice Ah Bs.length ch])/\AllEq σ [(1,V b1),(2,.slice Ah Bs.length ch)]/\FR w0 [] [(b1,.cells #[J 3,I [49],aQ,aQ] 27)] w) ?_ ?_)
  ·
   have hF:=hF.drew;have hp:=ph31 b1;refine NX 16 (Inv:=IH w.drew [(1,V b1)] l31) Nc Nc (IH.start SI O) ?_ ?_
   ·exact (Di (Di (Di (Di (Di (Di (Di (Di (Di (Di (Di (Di (Di (Di (Di (Di WO
      (Lu hp 0 rfl rfl (λS s w hd hI=>⟨[(1,V b1)],.agg (Vr 49).cells.toArray,w,⟨hI.1.1,trivial⟩,λs=>Hb (l:=(Vr 49).cells) xQ fZ rfl rfl ((hF.ext hI.2.1).cellsAll 0 rfl),Same.refl _ _,rfl⟩)))
      (Lu hp 1 rfl rfl (λS s w hd hI=>⟨[(13,.agg (Vr 49).cells.toArray)],.agg (Mv.mk none 0 0 (Vr 49)).cells.toArray,w,⟨hI.dep hd 0 rfl rfl,trivial⟩,λs=>by kernel_rfl,Same.refl _ _,⟨none,0,0,Vr 49⟩,rfl,Pt (x:=⟨[],Xs 49⟩) rfl (Rep.nil_slice 0 U none) (Dp 49)⟩)))
      (Lu hp 2 rfl rfl (λS s w hd hI=>⟨[],.slice (some ⟨w.heap.size,0,none⟩) 1 1,w.alloc (.cells (([0]:List Int).map λs=>Value.int .i64 s).toArray 3),trivial,λs=>Sc (cs:=(([0]:List Int).map λs=>Value.int .i64 s).toArray) oZ iZ xZ Cc Cc Nc,(Same.alloc w _).mono Ua,w.heap.size,rfl,heap_alloc_new w _⟩)))
      (Lu hp 3 rfl rfl (λS s w hd hI=>⟨[(1,V b1)],.agg (Vr 49).cells.toArray,w,⟨hI.1.1,trivial⟩,λs=>Hb (l:=(Vr 49).cells) xQ fZ rfl rfl ((hF.ext hI.2.1).cellsAll 0 rfl),Same.refl _ _,rfl⟩)))
      (Lu hp 4 rfl rfl (λS s w hd hI=>by
        obtain⟨b,e1,hb⟩:=hI.dep hd 2 rfl rfl;exact⟨[(15,W b 1 1),(16,.agg (Vr 49).cells.toArray)],.agg (Mv.mk (some ⟨b,0,none⟩) 1 1 (Vr 49)).cells.toArray,w,⟨e1,hI.dep hd 3 O O,trivial⟩,λs=>by kernel_rfl,Same.refl _ _,⟨some ⟨b,0,none⟩,1,1,Vr 49⟩,O,Pt (x:=⟨[0],Xs 49⟩) O (Py (l:=[0]) hb Cc Cc) (Dp 49)⟩)))
      (Lu hp 5 rfl rfl (λS s w hd hI=>⟨[],.slice (some ⟨w.heap.size,0,none⟩) 1 1,w.alloc (.cells (([0]:List Int).map λs=>Value.int .i64 s).toArray 3),trivial,λs=>Sc (cs:=(([0]:List Int).map λs=>Value.int .i64 s).toArray) oZ iZ xZ Cc Cc Nc,(Same.alloc w _).mono Ua,w.heap.size,rfl,heap_alloc_new w _⟩)))
      (YI hp 6 rfl rfl (λS s w hd hI=>⟨25,_,w,_,Xl (v':=.agg (Vr 50).cells.toArray) (AK 2 U U w (hG.ext (hF.same.trans hI.2.1))) Nc,Va EK rfl rfl,λv w'' h=>⟨h.2,h.1⟩⟩)))
      (Lu hp 7 rfl rfl (λS s w hd hI=>by
        obtain⟨b,e1,hb⟩:=hI.dep hd 5 rfl rfl;exact⟨[(18,W b 1 1),(19,.agg (Vr 50).cells.toArray)],.agg (Mv.mk (some ⟨b,0,none⟩) 1 1 (Vr 50)).cells.toArray,w,⟨e1,hI.dep hd 6 O O,trivial⟩,λs=>by kernel_rfl,Same.refl _ _,⟨some ⟨b,0,none⟩,1,1,Vr 50⟩,O,Pt (x:=⟨[0],Xs 50⟩) O (Py (l:=[0]) hb Cc Cc) (Dp 50)⟩)))
      (Lu hp 8 rfl rfl (λS s w hd hI=>⟨[],.slice (some ⟨w.heap.size,0,none⟩) 2 2,w.alloc (.cells (([1,2]:List Int).map λs=>Value.int .i64 s).toArray 3),trivial,λs=>Sc (cs:=(([1,2]:List Int).map λs=>Value.int .i64 s).toArray) oZ iZ xZ Cc Cc Nc,(Same.alloc w _).mono Ua,w.heap.size,rfl,heap_alloc_new w _⟩)))
      (Lu hp 9 rfl rfl (λS s w hd hI=>⟨[(1,V b1)],.agg (Vr 49).cells.toArray,w,⟨hI.1.1,trivial⟩,λs=>Hb (l:=(Vr 49).cells) xQ fZ rfl rfl ((hF.ext hI.2.1).cellsAll 0 rfl),Same.refl _ _,rfl⟩)))
      (Lu hp 10 rfl rfl (λS s w hd hI=>by
        obtain⟨b,e1,hb⟩:=hI.dep hd 8 rfl rfl;exact⟨[(21,W b 2 2),(22,.agg (Vr 49).cells.toArray)],.agg (Mv.mk (some ⟨b,0,none⟩) 2 2 (Vr 49)).cells.toArray,w,⟨e1,hI.dep hd 9 O O,trivial⟩,λs=>by kernel_rfl,Same.refl _ _,⟨some ⟨b,0,none⟩,2,2,Vr 49⟩,O,Pt (x:=⟨[1,2],Xs 49⟩) O (Py (l:=[1,2]) hb Cc Cc) (Dp 49)⟩)))
      (Lu hp 11 rfl rfl (λS s w hd hI=>⟨[],.slice (some ⟨w.heap.size,0,none⟩) 2 2,w.alloc (.cells (([1,2]:List Int).map λs=>Value.int .i64 s).toArray 3),trivial,λs=>Sc (cs:=(([1,2]:List Int).map λs=>Value.int .i64 s).toArray) oZ iZ xZ Cc Cc Nc,(Same.alloc w _).mono Ua,w.heap.size,rfl,heap_alloc_new w _⟩)))
      (YI hp 12 rfl rfl (λS s w hd hI=>⟨25,_,w,_,Xl (v':=.agg (Vr 51).cells.toArray) (AK 3 U U w (hG.ext (hF.same.trans hI.2.1))) Nc,Va EK rfl rfl,λv w'' h=>⟨h.2,h.1⟩⟩)))
      (Lu hp 13 rfl rfl (λS s w hd hI=>by
        obtain⟨b,e1,hb⟩:=hI.dep hd 11 rfl rfl;exact⟨[(24,W b 2 2),(25,.agg (Vr 51).cells.toArray)],.agg (Mv.mk (some ⟨b,0,none⟩) 2 2 (Vr 51)).cells.toArray,w,⟨e1,hI.dep hd 12 O O,trivial⟩,λs=>by kernel_rfl,Same.refl _ _,⟨some ⟨b,0,none⟩,2,2,Vr 51⟩,O,Pt (x:=⟨[1,2],Xs 51⟩) O (Py (l:=[1,2]) hb Cc Cc) (Dp 51)⟩)))
      (Lu hp 14 rfl rfl (λS s w hd hI=>by
        obtain⟨q0,e0,r0⟩:=hI.dep hd 1 rfl rfl;obtain⟨q1,e1,r1⟩:=hI.dep hd 4 rfl rfl;obtain⟨q2,e2,r2⟩:=hI.dep hd 7 rfl rfl;obtain⟨q3,e3,r3⟩:=hI.dep hd 10 rfl rfl;obtain⟨q4,e4,r4⟩:=hI.dep hd 13 rfl rfl;have hs:Same [] w (w.alloc (.cells ((q0.cells++(q1.cells++(q2.cells++(q3.cells++(q4.cells++[])))))).toArray 29)):=(Same.alloc w _).mono Ua;exact⟨[(14,.agg q0.cells.toArray),(17,.agg q1.cells.toArray),(20,.agg q2.cells.toArray),(23,.agg q3.cells.toArray),(26,.agg q4.cells.toArray)],.slice (some ⟨w.heap.size,0,none⟩) 5 5,w.alloc (.cells ((q0.cells++(q1.cells++(q2.cells++(q3.cells++(q4.cells++[])))))).toArray 29),⟨e0,e1,e2,e3,e4,trivial⟩,λs=>Sc (cs:=((q0.cells++(q1.cells++(q2.cells++(q3.cells++(q4.cells++[])))))).toArray) nZ gZ wZ Cc Cc Nc,hs,some ⟨w.heap.size,0,none⟩,5,O,DE (heap_alloc_new w _) (RepL.cons_mk (r0.ext hs) (RepL.cons_mk (r1.ext hs) (RepL.cons_mk (r2.ext hs) (RepL.cons_mk (r3.ext hs) (RepL.cons_mk (r4.ext hs) RepL.nil_mk))))) O Cc⟩)))
      (Lu hp 15 rfl rfl (λS s w hd hI=>⟨[(27,s 27)],s 27,w,SI,λs'=>Fi rfl,Same.refl _ _,hI.dep hd 14 rfl rfl⟩)))
   intro s w h;obtain⟨Ah,ch,e,hX⟩:=h.2.2 15 _ rfl rfl;exact Za ⟨Ah,ch,hX,⟨h.1.1,e,trivial⟩,hF.ext h.2.1⟩
  rintro σ w ⟨Ah,ch,hX,hs,hF⟩;refine Eg.slots hs ?_;clear hs;intro σ;refine Ga (Ha ?_);refine Ea (Ca (Kd O) ?_);refine Kc (GE Bs C4 On 1 2 0 Cc Cc K9 Ah ch _ _ hX (hG.ext hF.same)) (Iy CR O O O O O) ?_;rintro _ w ⟨qa,rfl,hRt,hE⟩;obtain⟨x_,hx_,-,hqa,-⟩:=Cl (y:=Xs 49) hRt;obtain rfl:=Q7 hx_;clear hRt hx_;have hX:=hX.ext hE;have hF:=hF.ext hE;refine Ca (Tq O) (Ca (J_ O O) ?_);refine Ca (Hr O O) (Vl hF vZ fZ O ?_);intro b2 w hb2 hF hE;have hX:=hX.ext hE;refine Ca (Bc O) (Ra ?_);refine Ga (Ha ?_);refine Ea (Ca (Kd O) ?_);refine Kc (JM Bs C4 On 1 2 0 Cc Cc K9 Cc _ EH (λ_=>NO [] 39 _ _ _ (.inr (.inl Nc))) VF Ah ch _ _ hX (hG.ext hF.same)) (Iy AZ O O O O O) ?_;rintro _ w ⟨qb,Ac,cc,rfl,hRt,-,hE⟩;obtain⟨x_,hx_,-,hqb,-⟩:=Cl (y:=Xs 50) hRt;obtain rfl:=Q7 hx_;clear hRt hx_;have hX:=hX.ext hE;have hF:=hF.ext hE;refine Ca (Tq O) (Ca (J_ O O) ?_);refine Ca (OW O O) (Ca (Hr O O) ?_);refine Vl hF vZ fZ O ?_;intro b3 w hb3 hF hE;have hX:=hX.ext hE;refine Ca (Vh O) (Ca (Bc O) ?_);refine Ra (Ga ?_);refine Ha (Ea ?_);refine Ca (Kd O) (Xi 2 hF (Sc (cs:=#[J 3,J 4]) oZ iZ xZ Cc Cc Nc) ?_);intro b4 w hb4 hF hE;have hX:=hX.ext hE;refine Ed (Ej xQ fZ O hF.F 3 O O) (Ja (w':=w) (v:=.agg #[W b4 2 2,J 3,I [49],aQ,aQ]) Nc ?_);refine Kc (GA Bs ⟨[3,4],Xs 49⟩ Ah ch ⟨some ⟨b4,0,none⟩,2,2,Vr 49⟩ _ (λb=>True) _ hX O ((Po (b:=b4) hF [3,4] Cc Cc 0 O).weaken λ_ _ _=>trivial) (Dp 49) On (OY 49).1 (hG.ext hF.same)) (Qb FL O O O) ?_;rintro _ w ⟨-,hA⟩;obtain⟨Ag,cg,sg,pg,hg,rfl,-,-,-,-,-,hE⟩:=hA YP;clear hA;have hX:=hX.ext hE;have hF:=hF.ext hE;refine Ca (Tq O) (Ca (OW O O) ?_);refine Ca (Hr O O) (Ca (Vh O) ?_);refine Ca (Bc O) (Ra ?_);refine Ga (Ha ?_);refine Ea (Ca (Kd O) ?_);refine Xi 1 hF (Sc (cs:=#[J 5]) oZ iZ xZ Cc Cc Nc) ?_;intro b5 w hb5 hF hE;have hX:=hX.ext hE;refine Ed (Ej xQ fZ O hF.F 4 O O) (Ja (w':=w) (v:=.agg #[W b5 1 1,J 3,I [49],aQ,aQ]) Nc ?_)
  refine Kc (GA Bs ⟨[5],Xs 49⟩ Ah ch ⟨some ⟨b5,0,none⟩,1,1,Vr 49⟩ _ (λb=>True) _ hX O ((Po (b:=b5) hF [5] Cc Cc 0 O).weaken λ_ _ _=>trivial) (Dp 49) On (OY 49).2 (hG.ext hF.same)) (Qb FL O O O) ?_;rintro _ w ⟨hA,-⟩;obtain⟨rfl,hE⟩:=hA (by rw[ID];decide);rw[ID];clear hA;have hX:=hX.ext hE;have hF:=hF.ext hE;refine Ca (Tq O) (Ca (OW O O) ?_);refine Ca (Hr O O) (Ca (Vh O) ?_);refine Ca (Bc O) (Ra ?_);refine Ga (Ha ?_);refine Ea (Ca (Kd O) ?_);refine Kc (Cz Bs Ah ch 3 4 U U _ _ hX On (hG.ext hF.same)) (Ng ES O O O O) ?_;rintro _ w ⟨As,cs,rfl,hRs,hE⟩;rw[SF]at hRs ⊢;have hX:=hX.ext hE;have hF:=hF.ext hE;refine Xi 2 hF (Sc (cs:=#[J 1,J 2]) oZ iZ xZ Cc Cc Nc) ?_;intro b6 w hb6 hF hE;have hX:=hX.ext hE;have hRs:=hRs.keepB hE;refine Kc (show Calls prog 16 #[.slice As 2 cs,W b6 2 2] w (Vd λv w'=>v=.bool true/\Same [] w w') from Xl (v':=.bool true) (E6 _ _ _ [1,2] [1,2] _ _ _ _ hRs (Po (b:=b6) hF [1,2] Cc Cc 0 O)) (congrArg Value.bool (decide_eq_true O))) (Qb RC O O O) ?_;rintro _ w ⟨rfl,hE⟩;have hF:=hF.ext hE;have hX:=hX.ext hE;have hRs:=hRs.keepB hE;refine Ca (Xb O) (Ca (Kd O) ?_);refine Kc (Uy Bs Ah ch 3 U _ _ hX On (hG.ext hF.same)) (Qb OS O O O) ?_;rintro _ w ⟨At,ct,rfl,hRt,hE⟩;rw[CI]at hRt ⊢;have hX:=hX.ext hE;have hF:=hF.ext hE;refine Xi 4 hF (Sc (cs:=#[J 0,J 1,J 2,J 3]) oZ iZ xZ Cc Cc Nc) ?_;intro b7 w hb7 hF hE;have hX:=hX.ext hE;have hRt:=hRt.keepB hE;refine Kc (show Calls prog 16 #[.slice At 4 ct,W b7 4 4] w (Vd λv w'=>v=.bool true/\Same [] w w') from Xl (v':=.bool true) (E6 _ _ _ [0,1,2,3] [0,1,2,3] _ _ _ _ hRt (Po (b:=b7) hF [0,1,2,3] Cc Cc 0 O)) (congrArg Value.bool (decide_eq_true O))) (Qb RC O O O) ?_;rintro _ w ⟨rfl,hE⟩;have hF:=hF.ext hE;have hX:=hX.ext hE;have hRt:=hRt.keepB hE;refine Ca (Rb O O) (Ca (Xb O) ?_)
  refine Ca (Db O) (Ja (v:=.bool true) (Eh (Dx O O) Cc) ?_);refine Ca (Rb O O) (Ca (Xb O) ?_);refine Ca (Cd Le O) (Ed (Em dZ O hF.F 5 O O) ?_);refine Ja (v:=.bool true) (Eh (GC O O) hqa) (Ca (Rb O O) ?_);refine Ca (Xb O) (Ca (Db O) ?_);refine Ja (v:=.bool true) (Eh (Dx O O) Cc) (Ca (Rb O O) ?_);refine Ca (Xb O) (Ca (Kd O) ?_);refine Ca (Rf underlying46 O) (Ja (v:=.bool true) (Eh (Dx O O) Cc) ?_);refine Ca (Rb O O) (Ca (Xb O) ?_);refine Ca (Cd Le O) (Ed (Em dZ O hF.F 4 O O) ?_);refine Ja (v:=.bool true) (Eh (GC O O) hqb) (Ca (Rb O O) ?_);refine Ca (Xb O) (Ca (Db O) ?_);refine Ja (v:=.bool true) (Eh (Dx O O) Cc) (Ca (Rb O O) ?_);refine Ca (Xb O) (Ca (Kd O) ?_);refine Ca (Rf nZ O) (Ja (v:=.bool true) (Eh (Dx O O) Cc) ?_);refine Ca (Rb O O) (Ca (Xb O) ?_);refine Ca (Db O) (Ja (v:=.bool true) (Eh (Dx O O) Cc) ?_);refine Ca (Rb O O) (Ca (Eb O) ?_);refine Ra (Ga ?_);refine Tc (v:=.bool true) O O ?_;exact⟨O,hF.same⟩
end Go.Scarf
