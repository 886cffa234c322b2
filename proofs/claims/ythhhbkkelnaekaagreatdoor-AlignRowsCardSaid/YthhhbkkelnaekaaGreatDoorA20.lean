/- A part of the proof. -/
import Derived.Test.YthhhbkkelnaekaaGreatDoorA9
import Derived.Test.YthhhbkkelnaekaaGreatDoorZ19
set_option linter.all false
set_option maxHeartbeats 8000000
set_option maxRecDepth 10000
namespace Go.Scarf
open Go.RowKit Go.Proofs Go.Proofs.Tryz
theorem KC (l:List Tree) (A:Option Addr) (c:Nat) (S:Nat→Prop) (w0:World) (hG:Gl w0) (hX:Rep S w0 (.slice (Wc l)) [.slice A l.length c]) (hok:∀ x∈l,Yj x):Calls prog 20 #[.slice A l.length c] w0 (De fun v w'=>(Zg l≠0∧v=.tuple #[.slice none 0 0,.int .i64 (Zg l)]∧Same [] w0 w')∨(Zg l=0∧∃ (A':Option Addr) (c':Nat),v=.tuple #[.slice A' l.length c',.int .i64 0]∧Rep (Btw w0 w') w' (.slice ((l.map We).map Dm)) [.slice A' l.length c']∧Same [] w0 w')):=by
 have hXl:=hX.slice_len
 rw [Cf] at hXl
 refine Ka func20 O ntmps20 Kb (Sc _) ?_
 have hF:=FR.start w0 []
 refine Ia (Ca (Sh O) (Ca (Wb O) (Bc (Ca (Sh O) (Ea (Ha (Ia ?_)))))))
 refine Ca (Wb O) (Ea (Ta ?_))
 refine Lc (fun μ σ w=>∃ (j:Nat),μ=l.length - j∧(j≤l.length)∧(∀ i (h:i < l.length),i < j→Je l[i]=true)∧AllEq σ [(0,.slice A l.length c),(4,.slice none 0 0),(5,.int .i64 ((j:Int)))]∧FR w0 [] [] w) _ ⟨0,O,U,(fun i _ h=>by omega),Vp,hF⟩ ?_
 clear hF; rintro μ σ w ⟨j,rfl,hj,hs_,hs,hF⟩
 refine Cg.slots hs ?_
 clear hs; intro σ
 refine Ha (Ia (Ca (Va O) (Ca (Yd O) (Ca (Df underlying22 O) (Ca (Yg O O) (Ea ?_))))))
 refine Yb O O (fun hc0=>?_) (fun hc0=>?_)
 refine Qa (Ga (Ha (Ta (Ia (Ca (Yd O) (Ca (Va O) ?_))))))
 obtain ⟨ad0,cs0,hA0,hl0,hk0,hx0⟩:=hX.tree_elem (i:=j) U
 have ho0:=hx0.one_
 refine Ja (v:=.pointer (some (ad0.add (j * 4)))) (Pa (i:=(j:Int)) Mg O hA0 O U U) (Ja (v:=.agg (List.toArray cs0)) (Fc (l:=cs0) isAgg27 sizeOf27 O hl0 (hF.cells0 hk0)) ?_)
 refine Jb hF (H2 l[j] (Nat.le_trans (hok _ (List.getElem_mem (l:=l) (n:=j) U)).2.1 Ua) (Nat.le_trans (hok _ (List.getElem_mem (l:=l) (n:=j) U)).2.2 Ua) _ _ cs0 (hF.rep hx0)) (Cb BM O O) ?_
 clear hF; intro w hF
 refine Ca (Hc O) (Bc (Ca (Jc O) (Ca (Pn O) (Ea ?_))))
 refine Mi O O (fun hc1=>?_) (fun hc1=>?_)
 refine Ia (Ca (Sh O) (Ca (Wb O) (Ea ?_)))
 refine Ub (Rb (Sa (Ld (v:=.slice _ _ _) (x:=.int .i64 1) O O O) ?_))
 have he:Zg l=1:=D3 (j:=j) (h:=by omega) (by simp_all)
 exact .inl ⟨by rw [he]; decide,by rw [he],hF.same⟩
 refine Qa (Eb (Ga (Fa (Ca (Va O) (Ca (If (((j+1:Nat):Int)) O O) (Ca (Wb O) (Xa ?_)))))))
 refine Ib ⟨_,?_,j+1,O,U,(R4 hs_ (fun _=>by simp_all)),Vp,hF⟩
 omega
 refine Dc (Cc O ?_)
 refine Ga (Ha (Ia (Ca (Yd O) (Ca (Df underlying22 O) (Ca (Ho O O) (Ea ?_))))))
 refine Yb O O (fun hc2=>?_) (fun hc2=>?_)
 refine Ia (Ca (Sh O) (Ca (Wb O) (Ea ?_)))
 refine Ub (Rb (Sa (Ld (v:=.slice _ _ _) (x:=.int .i64 6) O O O) ?_))
 have he:Zg l=6:=by rw [Zg,if_pos (Xo hs_ U),if_pos U]
 exact .inl ⟨by rw [he]; decide,by rw [he],hF.same⟩
 refine Qa (Ga (Ia (Ca (Wb O) (Ea (Ha (Ia (Ca (Wb O) (Ea (Ta ?_)))))))))
 have hall:∀ i (h:i < l.length),Je l[i]=true:=fun i h=>hs_ i h U
 refine Lc (fun μ σ w=>∃ (j:Nat),∃ (A1:Option Addr),∃ (c1:Nat),∃ (so:List (Nat × Obj)),∃ (vals:List Value),μ=l.length - j∧(j≤l.length)∧(SlB 56 2 A1 j c1 vals so)∧(RX w0 ([]++so.map (·.1)) w ((l.take j).map fun x=>Dm (We x)) vals)∧(Uu (l.take j)≤512)∧AllEq σ [(0,.slice A l.length c),(4,.slice A1 j c1),(7,.int .i64 (((Uu (l.take j):Nat):Int))),(8,.int .i64 ((j:Int)))]∧FR w0 [] ([]++(so++[])) w) _ ⟨0,none,0,[],[],O,(Nat.zero_le _),(SlB.nil _ _),(RX.nil),(by simp [Uu]),Gm,hF⟩ ?_
 clear hF; rintro μ σ w ⟨j,A1,c1,so,vals,rfl,hj,hS,hDX,ht_,hs,hF⟩
 refine Cg.slots hs ?_
 clear hs; intro σ
 refine Ha (Ia (Ca (Va O) (Ca (Yd O) (Ca (Df underlying22 O) (Ca (Yg O O) (Ea ?_))))))
 refine Yb O O (fun hc3=>?_) (fun hc3=>?_)
 refine Qa (Ga (Ha (Ta (Ia (Ca (Yd O) (Ca (Va O) ?_))))))
 obtain ⟨ad1,cs1,hA1,hl1,hk1,hx1⟩:=hX.tree_elem (i:=j) U
 have ho1:=hx1.one_
 refine Ja (v:=.pointer (some (ad1.add (j * 4)))) (Pa (i:=(j:Int)) Mg O hA1 O U U) (Ja (v:=.agg (List.toArray cs1)) (Fc (l:=cs1) isAgg27 sizeOf27 O hl1 (hF.cells0 hk1)) ?_)
 refine Pb (YJ l[j] _ _ cs1 (hF.rep hx1) (hG.ext hF.same) (hok _ (List.getElem_mem (l:=l) (n:=j) U)).2.1 (hok _ (List.getElem_mem (l:=l) (n:=j) U)).2.2 (hall j U)) (Cb NZ O O) ?_
 rintro _ w ⟨A5,c5,B5,e5,rfl,hL_,hN_,hE⟩
 have hRt:=FC (x:=(Uf l[j],Hh l[j])) hL_ hN_
 have hYX:=RX.made (ids:=[]++so.map (·.1)) hF.same.size (fun x hx=>hF.lt_ids (by grind)) hRt
 replace hDX:=hDX.ext hE
 replace hF:=hF.ext hE
 clear hE hRt hL_ hN_
 refine Ca (Ul O) (Ca (RQ O O) (Ca (Fm O O) ?_))
 refine Ym hF zeroValue56 sizeOf56 O ?_
 clear hF; intro b1 w hb1 hF hE
 replace hDX:=hDX.alloc hE hb1
 replace hYX:=hYX.alloc hE hb1
 clear hE
 refine Ca (Wb O) (Bc (Ca (Va O) (Ca (Ec Xc O) (Tc (Mf isAgg25 O hF.F 0 O O) (Ca (Df underlying25 O) ?_)))))
 refine Ja (v:=.int .i64 (((Uu (l.take (j+1)):Nat):Int))) (Il O O (Id (by rw [Ou U]; omega) U (by have h1:=Jk (hall j U); have h2:=(hok _ (List.getElem_mem (l:=l) (n:=j) U)).2.1; rw [Ou U]; omega))) ?_
 refine Ca (Wb O) (Ea (Ha (Ia (Ca (Va O) (Ja (v:=.bool false) (Zc (Ir O O) Ua) (Ca (Jc O) (Ca (Va O) (Ca (Ho O O) (Ca (Gc O O) (Ea ?_))))))))))
 refine Yb O O (fun hc4=>?_) (fun hc4=>?_)
 refine Ia (Ca (Sh O) (Ca (Wb O) (Ea ?_)))
 refine Ub (Rb (Sa (Ld (v:=.slice _ _ _) (x:=.int .i64 6) O O O) ?_))
 have he:Zg l=6:=by have h1:=U6 l (j+1); rw [Zg,if_pos (Xo (j:=l.length) (fun i h _=>hall i h) (Nat.le_refl _)),if_neg U,if_pos U]
 exact .inl ⟨by rw [he]; decide,by rw [he],hF.same⟩
 refine Qa (Ga (Fa (Ca (Yd O) (Tc (Wj isAgg56 sizeOf56 O hF.F 0 O O) ?_))))
 refine Pe 1 hF (Za (cs:=#[.slice (A5) ((Uf l[j]).length) (c5),.slice (B5) ((Hh l[j]).length) (e5)]) underlying47 sizeOf56 zeroValue56 Ua Ua Qb) ?_
 clear hF; intro b2 w hb2 hF hE
 replace hDX:=hDX.alloc hE hb2
 replace hYX:=hYX.alloc hE hb2
 clear hE
 refine Kf [(b2,.cells #[.slice (A5) ((Uf l[j]).length) (c5),.slice (B5) ((Hh l[j]).length) (e5)] 56),(b1,.cells #[.slice (A5) ((Uf l[j]).length) (c5),.slice (B5) ((Hh l[j]).length) (e5)] 56)] [] (news:=[.slice (A5) ((Uf l[j]).length) (c5),.slice (B5) ((Hh l[j]).length) (e5)]) (len':=j+1) (ys:=vals++[.slice (A5) ((Uf l[j]).length) (c5),.slice (B5) ((Hh l[j]).length) (e5)]) HU hF hS O O (O) (fun _=>⟨_,O,Xb (hF.cellsAll 0 O)⟩) (by simp [Value.oneCell']) (by simp only [maxLen]; omega) (O) (O) U ?_
 clear hF; intro A2 c2 o_2 w hS2_o hF hE hnew
 replace hDX:=hDX.app (l:=[b2,b1]) hE hnew
 replace hYX:=hYX.app (l:=[b2,b1]) hE hnew
 clear hE hnew
 refine Ca (Sh O) (Xa (Eb (Ga (Fa (Ca (Va O) (Ca (If (((j+1:Nat):Int)) O O) (Ca (Wb O) (Xa ?_))))))))
 refine Ib ⟨_,?_,j+1,A2,c2,o_2,vals++[.slice A5 (Uf l[j]).length c5,.slice B5 (Hh l[j]).length e5],O,U,(by assumption),(by rw [N2 U]; exact (hDX.append hYX).sub (by grind)),U,Gm,hF.drop 2⟩
 omega
 refine Dc (Cc O ?_)
 refine Ga (Ia (Ca (Yd O) (Ca (Sh O) (Ca (Wb O) (Ea ?_)))))
 refine Ub (Rb (Sa (Ld (v:=.slice _ _ _) (x:=.int .i64 0) O O O) ?_))
 have ej:j=l.length:=by omega
 subst ej
 rw [List.take_length] at hDX ht_
 have he:Zg l=0:=by rw [Zg,if_pos (Xo (j:=l.length) (fun i h _=>hall i h) (Nat.le_refl _)),if_neg U,if_neg U]
 have hrep:=hS.rep (pre:=[]) (post:=[]) hF hDX Ma
 exact .inr ⟨he,A1,c1,O,by rw [List.map_map]; exact hrep,hF.same⟩
theorem U2 (l:List Tree) (A:Option Addr) (c:Nat) (S:Nat→Prop) (w0:World) (hG:Gl w0) (hX:Rep S w0 (.slice (Wc l)) [.slice A l.length c]) (hok:∀ x∈l,Yj x) :
    Calls prog 20 #[.slice A l.length c] w0 (De fun v w'=>∃ V,v=.tuple #[V,.int .i64 (Zg l)]∧Same [] w0 w') :=
  Bi (KC l A c S w0 hG hX hok) fun v w' h=>by
    rcases h with ⟨_,rfl,hs⟩ | ⟨he,A',c',rfl,_,hs⟩
    · exact ⟨_,O,hs⟩
    · exact ⟨_,by rw [he],hs⟩
theorem E2 (l:List Tree) (la:List TreeN) (hl:la=l.map We) (he:Zg l=0) (A:Option Addr) (c:Nat) (S:Nat→Prop) (w0:World) (hG:Gl w0) (hX:Rep S w0 (.slice (Wc l)) [.slice A l.length c]) (hok:∀ x∈l,Yj x) :
    Calls prog 20 #[.slice A l.length c] w0 (De fun v w'=>∃ (A':Option Addr) (c':Nat),v=.tuple #[.slice A' la.length c',.int .i64 0]∧Rep (Btw w0 w') w' (.slice (la.map Dm)) [.slice A' la.length c']∧Same [] w0 w') :=
  Bi (KC l A c S w0 hG hX hok) fun v w' h=>by
    rcases h with ⟨h,_⟩ | ⟨_,A',c',rfl,hr,hs⟩
    · exact absurd he h
    · subst hl; exact ⟨A',c',by rw [List.length_map],by rw [List.length_map]; exact hr,hs⟩
end Go.Scarf
