/- A part of the proof. -/
import Derived.Test.YthhhbkkelnaekaaGreatDoorA22
import Derived.Test.YthhhbkkelnaekaaGreatDoorA9
set_option linter.all false
set_option maxHeartbeats 8000000
set_option maxRecDepth 10000
namespace Go.Scarf
open Go.RowKit Go.Proofs Go.Proofs.Tryz
theorem UC (w0:World) (hG:Gl w0) (a:List Tree) (A:Option Addr) (c:Nat) (hA_:Rep (fun _=>True) w0 (.slice (Wc a)) [.slice A a.length c]) (b:List Tree) (B:Option Addr) (e:Nat) (hB_:Rep (fun _=>True) w0 (.slice (Wc b)) [.slice B b.length e]):Calls prog 3 #[.slice A a.length c,.slice B b.length e] w0 (De fun v w'=>v=.bool true∧Same [] w0 w'):=by
 have hXl:=hA_.slice_len
 have hYl:=hB_.slice_len
 rw [Cf] at hXl hYl
 refine Ka func3 O ntmps3 Kb (Ee _ _) ?_
 have hF:=FR.start w0 []
 refine Ia (Ca (Hc O) (Bc ?_))
 refine Jb hF (TI _ (hG.ext hF.same)) (WQ en_4 O) ?_
 clear hF; intro w hF
 refine Ca (Hc O) (Bc (Ca (Yd O) ?_))
 refine Jb hF (HH a _ _ _ _ (hF.rep hA_)) (Cb VZ O O) ?_
 clear hF; intro w hF
 refine Ca (Jc O) ?_
 refine Jf (d:=20) O (fun hg0=>?_) (fun hg0=>?_)
 refine Ca (Yd O) ?_
 refine Jb hF (HH b _ _ _ _ (hF.rep hB_)) (Cb VZ O O) ?_
 clear hF; intro w hF
 refine Ca (Ic O O) (Ca (Hc O) (Ea (Ha (Ia (Ca (Jc O) (Ca (Pn O) (Ca (Jc O) ?_)))))))
 refine Jf (d:=26) O (fun hg1=>?_) (fun hg1=>?_)
 refine Da (Da (Da (Da (Da (Da (Da (Da (Da (Da (Da (Da (Da (Da ?_)))))))))))))
 refine Da (Da (Ca (Ic O O) (Ea (Ae O (Ia (Ca (Jc O) (Ca (Hc O) (Ea ?_))))))))
 refine Td (v:=.bool true) O O ?_
 exact ⟨O,hF.same⟩
 refine Ca (Yd O) (Ca (Df underlying22 O) (Ca (Yd O) (Ca (Df underlying22 O) ?_)))
 obtain ⟨mm,hmm⟩:∃ m,m=a.length * b.length:=⟨_,rfl⟩
 have hfa0:Yk a=true:=by simp_all
 have hfb0:Yk b=true:=by simp_all
 have hmx:=Nat.mul_le_mul (show a.length≤66 by have:=(Fj hfa0).1; omega) (show b.length≤66 by have:=(Fj hfb0).1; omega)
 rw [←hmm] at hmx
 refine Ja (v:=.int .i64 (((mm:Nat):Int))) (Fl O O (Id (by rw [hmm,Int.natCast_mul]) U U)) ?_
 refine Ca (Ho O O) (Ca (Jc O) ?_)
 refine Hb (d:=33) O (fun hg2=>?_) (fun hg2=>?_)
 refine Ca (Yd O) (Ca (Df underlying22 O) (Ca (J1 O O) (Ca (Ic O O) (Ca (Jc O) ?_))))
 refine Hb (d:=38) O (fun hg3=>?_) (fun hg3=>?_)
 refine Ca (Yd O) (Ca (Df underlying22 O) (Ca (J1 O O) (Ca (Ic O O) (Ca (Gc O O) (Ea ?_)))))
 refine Yb O O (fun hc0=>?_) (fun hc0=>?_)
 refine Ia (Ca (Jc O) (Ca (Hc O) (Ea ?_)))
 refine Td (v:=.bool true) O O ?_
 exact ⟨O,hF.same⟩
 refine Qa (Ga (Ha ?_))
 have hfa:Yk a=true:=by simp_all
 have hfb:Yk b=true:=by simp_all
 have hoa:=Yi hfa
 have hal:a.length≤66:=by have:=(Fj hfa).1; omega
 refine Fa (Ca (Sh O) (Ea (Ha (Ia (Ca (Wb O) (Ea (Ta ?_)))))))
 refine Lc (fun μ σ w=>∃ (j:Nat),∃ (A1:Option Addr),∃ (c1:Nat),∃ (so:List (Nat × Obj)),∃ (vals:List Value),μ=a.length - j∧(j≤a.length)∧(SlB 27 4 A1 j c1 vals so)∧(RX w0 ([]++so.map (·.1)) w (Wc (a.take j)) vals)∧AllEq σ [(0,.slice A a.length c),(1,.slice B b.length e),(5,.bool true),(7,.slice A1 j c1),(8,.int .i64 ((j:Int)))]∧FR w0 [] ([]++(so++[])) w) _ ⟨0,none,0,[],[],O,(Nat.zero_le _),(SlB.nil _ _),(RX.nil),Am,hF⟩ ?_
 clear hF; rintro μ σ w ⟨j,A1,c1,so,vals,rfl,hj,hS,hDX,hs,hF⟩
 refine Cg.slots hs ?_
 clear hs; intro σ
 refine Ha (Ia (Ca (Va O) (Ca (Yd O) (Ca (Df underlying22 O) (Ca (Yg O O) (Ea ?_))))))
 refine Yb O O (fun hc1=>?_) (fun hc1=>?_)
 refine Qa (Ga (Ha (Ta (Fa (Ca (Yd O) (Ca (Yd O) (Ca (Va O) ?_)))))))
 obtain ⟨ad4,cs4,hA4,hl4,hk4,hx4⟩:=hA_.tree_elem (i:=j) U
 have ho4:=hx4.one_
 refine Ja (v:=.pointer (some (ad4.add (j * 4)))) (Pa (i:=(j:Int)) Mg O hA4 O U U) (Ja (v:=.agg (List.toArray cs4)) (Fc (l:=cs4) isAgg27 sizeOf27 O hl4 (hF.cells0 hk4)) ?_)
 refine Pb (E3 a[j] _ _ cs4 (hF.rep hx4) (by have:=Xp U ((Fj hfa).2 _ (List.getElem_mem (l:=a) (n:=j) U)); omega) (by have:=Xp U ((Fj hfa).2 _ (List.getElem_mem (l:=a) (n:=j) U)); omega)) (Cb WS O O) ?_
 rintro _ w ⟨ct,rfl,hRt,hE⟩
 have hlt:ct.length=4:=hRt.length.trans (Dd _)
 have hot:=hRt.one_
 have hYX:=RX.made (ids:=[]++so.map (·.1)) hF.same.size (fun x hx=>hF.lt_ids (by grind)) hRt
 replace hDX:=hDX.ext hE
 replace hF:=hF.ext hE
 clear hE hRt
 refine Pe 1 hF (Qh (l:=ct) underlying22 sizeOf27 zeroValue27 Ua Ua O hlt) ?_
 clear hF; intro b1 w hb1 hF hE
 replace hDX:=hDX.alloc hE hb1
 replace hYX:=hYX.alloc hE hb1
 clear hE
 refine Kf [(b1,.cells (List.toArray ct) 27)] [] (news:=ct) (len':=j+1) (ys:=vals++ct) F0 hF hS O O (by rw [hlt]) (fun _=>⟨_,O,Xb (hF.cellsAll 0 O)⟩) (Pl hot) (by simp only [maxLen]; omega) (O) (O) U ?_
 clear hF; intro A5 c5 o_5 w hS5_o hF hE hnew
 replace hDX:=hDX.app (l:=[b1]) hE hnew
 replace hYX:=hYX.app (l:=[b1]) hE hnew
 clear hE hnew
 refine Ca (Sh O) (Xa (Eb (Ga (Fa (Ca (Va O) (Ca (If (((j+1:Nat):Int)) O O) (Ca (Wb O) (Xa ?_))))))))
 refine Ib ⟨_,?_,j+1,A5,c5,o_5,vals++ct,O,U,(by assumption),(by rw [Gq U]; exact (hDX.append hYX).sub (by grind)),Am,hF.drop 1⟩
 omega
 refine Dc (Cc O ?_)
 refine Ga (Ha ?_)
 obtain rfl:j=a.length:=by omega
 rw [List.take_length] at hDX
 have hIN:Rep (fun _=>True) w (.slice (Wc a)) [.slice A1 a.length c1]:=(hS.rep (pre:=[]) (post:=[]) hF hDX Ma).weaken fun _ _ _=>trivial
 have hs01:=hF.same
 replace hA_:=hF.rep hA_
 replace hB_:=hF.rep hB_
 replace hG:=hG.ext hF.same
 obtain ⟨w0,hw0⟩:∃ u,u=w:=⟨_,rfl⟩
 replace hF:FR w0 [] [] w:=by rw [hw0]; exact FR.start w []
 rw [←hw0] at hIN hA_ hB_ hs01 hG
 clear hw0 hDX hS
 refine Fa (Ca (Yd O) (Ca (Yd O) ?_))
 refine Pb (U1 _ _ _ (hG.ext hF.same) a b A1 B c1 e (hF.rep hIN) (hF.rep hB_) hfa hfb) (Vb BL O O O) ?_
 rintro _ w ⟨Z1,y1,rfl,hr1,hE⟩
 replace hF:=hF.ext hE
 clear hE
 refine Ca (Ul O) (Ca (W4 O O) (Ca (Fm O O) (Ca (Fm O O) (Ca (Sh O) (Ca (Wb O) (Ca (Wb O) (Bc (Ca (Yd O) (Ca (Yd O) ?_)))))))))
 refine Pb (Wy _ _ _ (hG.ext hF.same) a b A B c e (hF.rep hA_) (hF.rep hB_) hfa hfb) (Vb GX O O O) ?_
 rintro _ w ⟨Z2,y2,rfl,hr2,hE⟩
 replace hr1:=hr1.ext hE
 replace hF:=hF.ext hE
 clear hE
 refine Ca (Ul O) (Ca (W4 O O) (Ca (Fm O O) (Ca (Fm O O) (Ca (Sh O) (Ca (Wb O) (Ca (Wb O) (Ea (Ha (Ia (Ca (Wb O) (Xa ?_)))))))))))
 refine Ga (Ta ?_)
 refine Lc (fun μ σ w=>∃ (i:Nat),μ=a.length - i∧(i≤a.length)∧(Rep (fun _=>True) w (Lj (PX a b)) [.slice Z1 (PX a b).length y1])∧(Rep (fun _=>True) w (Lj (PX a b)) [.slice Z2 (PX a b).length y2])∧AllEq σ [(0,.slice A a.length c),(5,.bool true),(7,.slice A1 a.length c1),(9,.slice (Z1) ((PX a b).length) (y1)),(10,.int .i64 (NX a b)),(11,.int .i64 (Dr a b)),(12,.slice (Z2) ((PX a b).length) (y2)),(13,.int .i64 (NX a b)),(14,.int .i64 (Dr a b)),(15,.int .i64 ((i:Int)))]∧FR w0 [] [] w) _ ⟨0,O,(Nat.zero_le _),(hr1),(hr2),⟨O,O,O,O,O,O,O,O,O,O,trivial⟩,hF⟩ ?_
 clear hF; rintro μ σ w ⟨i,rfl,hi,hr1,hr2,hs,hF⟩
 refine Cg.slots hs ?_
 clear hs; intro σ
 refine Ha (Ia (Ca (Va O) (Ca (Yd O) (Ca (Df underlying22 O) (Ca (Yg O O) (Ea ?_))))))
 refine Yb O O (fun hc2=>?_) (fun hc2=>?_)
 refine Qa (Ga (Ha (Ta (Ha ?_))))
 refine Uc [] (.free 0 (.free 1 (.free 2 (.free 3 (.free 4 (.free 5 (.free 6 (.free 7 (.act 8 (.free 9 .nil)))))))))) hF ?_
 clear hF; intro w hF hE
 replace hr1:=hr1.ext hE
 replace hr2:=hr2.ext hE
 clear hE
 refine ⟨fun wq=>FR w0 [] _ wq,hF,?_⟩
 refine Db O (Yd O) (Db O (Va O) ?_)
 obtain ⟨ad6,cs6,hA6,hl6,hk6,hx6⟩:=hIN.tree_elem (i:=i) U
 have ho6:=hx6.one_
 refine Oa O (v:=.pointer (some (ad6.add (i * 4)))) (fun w hC=>Pa (i:=(i:Int)) Mg O hA6 O U U) (Oa O (v:=.agg (List.toArray cs6)) (fun w hC=>Fc (l:=cs6) isAgg27 sizeOf27 O hl6 (hC.cells0 hk6)) (Db O (Yd O) (Db O (Va O) ?_)))
 obtain ⟨ad7,cs7,hA7,hl7,hk7,hx7⟩:=hA_.tree_elem (i:=i) U
 have ho7:=hx7.one_
 refine Oa O (v:=.pointer (some (ad7.add (i * 4)))) (fun w hC=>Pa (i:=(i:Int)) Mg O hA7 O U U) (Oa O (v:=.agg (List.toArray cs7)) (fun w hC=>Fc (l:=cs7) isAgg27 sizeOf27 O hl7 (hC.cells0 hk7)) ?_)
 refine Ye O (Ng (v':=.bool true) (M9 a[i] a[i] _ _ _ cs6 cs7 (hF.rep hx6) (hF.rep hx7)) (congrArg Value.bool (Kl _))) (Vb DR O O O) ?_
 rintro _ w ⟨rfl,hE⟩
 replace hF:=hF.ext hE
 replace hr1:=hr1.ext hE
 replace hr2:=hr2.ext hE
 clear hE
 refine ⟨hF,?_⟩
 refine Db O (Hc O) (Mc (Ga (Ia (Ca (Jc O) (Ca (Pn (b:=true) O) (Ea (Ie O (Qa (Eb (Ga (Fa ?_)))))))))))
 refine Ca (Va O) (Ca (If (((i+1:Nat):Int)) O O) (Ca (Wb O) (Xa ?_)))
 refine Ib ⟨_,?_,i+1,O,U,(hr1),(hr2),⟨O,O,O,O,O,O,O,O,O,O,trivial⟩,hF⟩
 omega
 refine Dc (Cc O ?_)
 refine Ga (Ia (Ca (Jc O) (Ca (Jc O) (Ca (Yd O) (Ca (Yd O) ?_)))))
 refine Pb (Ng (v':=.bool true) (Zq _ _ _ (PX a b) (PX a b) _ _ _ _ hr1 hr2) (congrArg Value.bool (decide_eq_true O))) (Vb V5 O O O) ?_
 rintro _ w ⟨rfl,hE⟩
 replace hF:=hF.ext hE
 replace hr1:=hr1.ext hE
 replace hr2:=hr2.ext hE
 clear hE
 refine Ca (Ic O O) (Ca (Jc O) (Ca (Va O) (Ca (Va O) (Ja (v:=.bool true) (Ce (Ig O O) (O)) (Ca (Ic O O) (Ca (Jc O) (Ca (Va O) (Ca (Va O) (Ja (v:=.bool true) (Ce (Ig O O) (O)) (Ca (Ic O O) (Ca (Hc O) (Ea ?_))))))))))))
 refine Td (v:=.bool true) O O ?_
 exact ⟨O,hs01.trans hF.same⟩
 refine Da (Da (Da (Ca (Gc O O) (Ca (Gc O O) (Ea (Qj O (Ha ?_)))))))
 have hfa:Yk a=true:=by simp_all
 have hfb:Yk b=true:=by simp_all
 have hoa:=Yi hfa
 have hal:a.length≤66:=by have:=(Fj hfa).1; omega
 refine Fa (Ca (Sh O) (Ea (Ha (Ia (Ca (Wb O) (Ea (Ta ?_)))))))
 refine Lc (fun μ σ w=>∃ (j:Nat),∃ (A1:Option Addr),∃ (c1:Nat),∃ (so:List (Nat × Obj)),∃ (vals:List Value),μ=a.length - j∧(j≤a.length)∧(SlB 27 4 A1 j c1 vals so)∧(RX w0 ([]++so.map (·.1)) w (Wc (a.take j)) vals)∧AllEq σ [(0,.slice A a.length c),(1,.slice B b.length e),(5,.bool true),(7,.slice A1 j c1),(8,.int .i64 ((j:Int)))]∧FR w0 [] ([]++(so++[])) w) _ ⟨0,none,0,[],[],O,(Nat.zero_le _),(SlB.nil _ _),(RX.nil),Am,hF⟩ ?_
 clear hF; rintro μ σ w ⟨j,A1,c1,so,vals,rfl,hj,hS,hDX,hs,hF⟩
 refine Cg.slots hs ?_
 clear hs; intro σ
 refine Ha (Ia (Ca (Va O) (Ca (Yd O) (Ca (Df underlying22 O) (Ca (Yg O O) (Ea ?_))))))
 refine Yb O O (fun hc1=>?_) (fun hc1=>?_)
 refine Qa (Ga (Ha (Ta (Fa (Ca (Yd O) (Ca (Yd O) (Ca (Va O) ?_)))))))
 obtain ⟨ad8,cs8,hA8,hl8,hk8,hx8⟩:=hA_.tree_elem (i:=j) U
 have ho8:=hx8.one_
 refine Ja (v:=.pointer (some (ad8.add (j * 4)))) (Pa (i:=(j:Int)) Mg O hA8 O U U) (Ja (v:=.agg (List.toArray cs8)) (Fc (l:=cs8) isAgg27 sizeOf27 O hl8 (hF.cells0 hk8)) ?_)
 refine Pb (E3 a[j] _ _ cs8 (hF.rep hx8) (by have:=Xp U ((Fj hfa).2 _ (List.getElem_mem (l:=a) (n:=j) U)); omega) (by have:=Xp U ((Fj hfa).2 _ (List.getElem_mem (l:=a) (n:=j) U)); omega)) (Cb WS O O) ?_
 rintro _ w ⟨ct,rfl,hRt,hE⟩
 have hlt:ct.length=4:=hRt.length.trans (Dd _)
 have hot:=hRt.one_
 have hYX:=RX.made (ids:=[]++so.map (·.1)) hF.same.size (fun x hx=>hF.lt_ids (by grind)) hRt
 replace hDX:=hDX.ext hE
 replace hF:=hF.ext hE
 clear hE hRt
 refine Pe 1 hF (Qh (l:=ct) underlying22 sizeOf27 zeroValue27 Ua Ua O hlt) ?_
 clear hF; intro b2 w hb2 hF hE
 replace hDX:=hDX.alloc hE hb2
 replace hYX:=hYX.alloc hE hb2
 clear hE
 refine Kf [(b2,.cells (List.toArray ct) 27)] [] (news:=ct) (len':=j+1) (ys:=vals++ct) F0 hF hS O O (by rw [hlt]) (fun _=>⟨_,O,Xb (hF.cellsAll 0 O)⟩) (Pl hot) (by simp only [maxLen]; omega) (O) (O) U ?_
 clear hF; intro A9 c9 o_9 w hS9_o hF hE hnew
 replace hDX:=hDX.app (l:=[b2]) hE hnew
 replace hYX:=hYX.app (l:=[b2]) hE hnew
 clear hE hnew
 refine Ca (Sh O) (Xa (Eb (Ga (Fa (Ca (Va O) (Ca (If (((j+1:Nat):Int)) O O) (Ca (Wb O) (Xa ?_))))))))
 refine Ib ⟨_,?_,j+1,A9,c9,o_9,vals++ct,O,U,(by assumption),(by rw [Gq U]; exact (hDX.append hYX).sub (by grind)),Am,hF.drop 1⟩
 omega
 refine Dc (Cc O ?_)
 refine Ga (Ha ?_)
 obtain rfl:j=a.length:=by omega
 rw [List.take_length] at hDX
 have hIN:Rep (fun _=>True) w (.slice (Wc a)) [.slice A1 a.length c1]:=(hS.rep (pre:=[]) (post:=[]) hF hDX Ma).weaken fun _ _ _=>trivial
 have hs01:=hF.same
 replace hA_:=hF.rep hA_
 replace hB_:=hF.rep hB_
 replace hG:=hG.ext hF.same
 obtain ⟨w0,hw0⟩:∃ u,u=w:=⟨_,rfl⟩
 replace hF:FR w0 [] [] w:=by rw [hw0]; exact FR.start w []
 rw [←hw0] at hIN hA_ hB_ hs01 hG
 clear hw0 hDX hS
 refine Fa (Ca (Yd O) (Ca (Yd O) ?_))
 refine Pb (U1 _ _ _ (hG.ext hF.same) a b A1 B c1 e (hF.rep hIN) (hF.rep hB_) hfa hfb) (Vb BL O O O) ?_
 rintro _ w ⟨Z1,y1,rfl,hr1,hE⟩
 replace hF:=hF.ext hE
 clear hE
 refine Ca (Ul O) (Ca (W4 O O) (Ca (Fm O O) (Ca (Fm O O) (Ca (Sh O) (Ca (Wb O) (Ca (Wb O) (Bc (Ca (Yd O) (Ca (Yd O) ?_)))))))))
 refine Pb (Wy _ _ _ (hG.ext hF.same) a b A B c e (hF.rep hA_) (hF.rep hB_) hfa hfb) (Vb GX O O O) ?_
 rintro _ w ⟨Z2,y2,rfl,hr2,hE⟩
 replace hr1:=hr1.ext hE
 replace hF:=hF.ext hE
 clear hE
 refine Ca (Ul O) (Ca (W4 O O) (Ca (Fm O O) (Ca (Fm O O) (Ca (Sh O) (Ca (Wb O) (Ca (Wb O) (Ea (Ha (Ia (Ca (Wb O) (Xa ?_)))))))))))
 refine Ga (Ta ?_)
 refine Lc (fun μ σ w=>∃ (i:Nat),μ=a.length - i∧(i≤a.length)∧(Rep (fun _=>True) w (Lj (PX a b)) [.slice Z1 (PX a b).length y1])∧(Rep (fun _=>True) w (Lj (PX a b)) [.slice Z2 (PX a b).length y2])∧AllEq σ [(0,.slice A a.length c),(5,.bool true),(7,.slice A1 a.length c1),(9,.slice (Z1) ((PX a b).length) (y1)),(10,.int .i64 (NX a b)),(11,.int .i64 (Dr a b)),(12,.slice (Z2) ((PX a b).length) (y2)),(13,.int .i64 (NX a b)),(14,.int .i64 (Dr a b)),(15,.int .i64 ((i:Int)))]∧FR w0 [] [] w) _ ⟨0,O,(Nat.zero_le _),(hr1),(hr2),⟨O,O,O,O,O,O,O,O,O,O,trivial⟩,hF⟩ ?_
 clear hF; rintro μ σ w ⟨i,rfl,hi,hr1,hr2,hs,hF⟩
 refine Cg.slots hs ?_
 clear hs; intro σ
 refine Ha (Ia (Ca (Va O) (Ca (Yd O) (Ca (Df underlying22 O) (Ca (Yg O O) (Ea ?_))))))
 refine Yb O O (fun hc2=>?_) (fun hc2=>?_)
 refine Qa (Ga (Ha (Ta (Ha ?_))))
 refine Uc [] (.free 0 (.free 1 (.free 2 (.free 3 (.free 4 (.free 5 (.free 6 (.free 7 (.act 8 (.free 9 .nil)))))))))) hF ?_
 clear hF; intro w hF hE
 replace hr1:=hr1.ext hE
 replace hr2:=hr2.ext hE
 clear hE
 refine ⟨fun wq=>FR w0 [] _ wq,hF,?_⟩
 refine Db O (Yd O) (Db O (Va O) ?_)
 obtain ⟨ad10,cs10,hA10,hl10,hk10,hx10⟩:=hIN.tree_elem (i:=i) U
 have ho10:=hx10.one_
 refine Oa O (v:=.pointer (some (ad10.add (i * 4)))) (fun w hC=>Pa (i:=(i:Int)) Mg O hA10 O U U) (Oa O (v:=.agg (List.toArray cs10)) (fun w hC=>Fc (l:=cs10) isAgg27 sizeOf27 O hl10 (hC.cells0 hk10)) (Db O (Yd O) (Db O (Va O) ?_)))
 obtain ⟨ad11,cs11,hA11,hl11,hk11,hx11⟩:=hA_.tree_elem (i:=i) U
 have ho11:=hx11.one_
 refine Oa O (v:=.pointer (some (ad11.add (i * 4)))) (fun w hC=>Pa (i:=(i:Int)) Mg O hA11 O U U) (Oa O (v:=.agg (List.toArray cs11)) (fun w hC=>Fc (l:=cs11) isAgg27 sizeOf27 O hl11 (hC.cells0 hk11)) ?_)
 refine Ye O (Ng (v':=.bool true) (M9 a[i] a[i] _ _ _ cs10 cs11 (hF.rep hx10) (hF.rep hx11)) (congrArg Value.bool (Kl _))) (Vb DR O O O) ?_
 rintro _ w ⟨rfl,hE⟩
 replace hF:=hF.ext hE
 replace hr1:=hr1.ext hE
 replace hr2:=hr2.ext hE
 clear hE
 refine ⟨hF,?_⟩
 refine Db O (Hc O) (Mc (Ga (Ia (Ca (Jc O) (Ca (Pn (b:=true) O) (Ea (Ie O (Qa (Eb (Ga (Fa ?_)))))))))))
 refine Ca (Va O) (Ca (If (((i+1:Nat):Int)) O O) (Ca (Wb O) (Xa ?_)))
 refine Ib ⟨_,?_,i+1,O,U,(hr1),(hr2),⟨O,O,O,O,O,O,O,O,O,O,trivial⟩,hF⟩
 omega
 refine Dc (Cc O ?_)
 refine Ga (Ia (Ca (Jc O) (Ca (Jc O) (Ca (Yd O) (Ca (Yd O) ?_)))))
 refine Pb (Ng (v':=.bool true) (Zq _ _ _ (PX a b) (PX a b) _ _ _ _ hr1 hr2) (congrArg Value.bool (decide_eq_true O))) (Vb V5 O O O) ?_
 rintro _ w ⟨rfl,hE⟩
 replace hF:=hF.ext hE
 replace hr1:=hr1.ext hE
 replace hr2:=hr2.ext hE
 clear hE
 refine Ca (Ic O O) (Ca (Jc O) (Ca (Va O) (Ca (Va O) (Ja (v:=.bool true) (Ce (Ig O O) (O)) (Ca (Ic O O) (Ca (Jc O) (Ca (Va O) (Ca (Va O) (Ja (v:=.bool true) (Ce (Ig O O) (O)) (Ca (Ic O O) (Ca (Hc O) (Ea ?_))))))))))))
 refine Td (v:=.bool true) O O ?_
 exact ⟨O,hs01.trans hF.same⟩
 refine Da (Da (Da (Ca (Gc O O) (Ca (Jc O) (Da (Da (Da (Ca (Gc O O) (Ca (Gc O O) (Ea (Ie O (Qa ?_))))))))))))
 refine Ga (Ha ?_)
 have hfa:Yk a=true:=by simp_all
 have hfb:Yk b=true:=by simp_all
 have hoa:=Yi hfa
 have hal:a.length≤66:=by have:=(Fj hfa).1; omega
 refine Fa (Ca (Sh O) (Ea (Ha (Ia (Ca (Wb O) (Ea (Ta ?_)))))))
 refine Lc (fun μ σ w=>∃ (j:Nat),∃ (A1:Option Addr),∃ (c1:Nat),∃ (so:List (Nat × Obj)),∃ (vals:List Value),μ=a.length - j∧(j≤a.length)∧(SlB 27 4 A1 j c1 vals so)∧(RX w0 ([]++so.map (·.1)) w (Wc (a.take j)) vals)∧AllEq σ [(0,.slice A a.length c),(1,.slice B b.length e),(5,.bool true),(7,.slice A1 j c1),(8,.int .i64 ((j:Int)))]∧FR w0 [] ([]++(so++[])) w) _ ⟨0,none,0,[],[],O,(Nat.zero_le _),(SlB.nil _ _),(RX.nil),Am,hF⟩ ?_
 clear hF; rintro μ σ w ⟨j,A1,c1,so,vals,rfl,hj,hS,hDX,hs,hF⟩
 refine Cg.slots hs ?_
 clear hs; intro σ
 refine Ha (Ia (Ca (Va O) (Ca (Yd O) (Ca (Df underlying22 O) (Ca (Yg O O) (Ea ?_))))))
 refine Yb O O (fun hc1=>?_) (fun hc1=>?_)
 refine Qa (Ga (Ha (Ta (Fa (Ca (Yd O) (Ca (Yd O) (Ca (Va O) ?_)))))))
 obtain ⟨ad12,cs12,hA12,hl12,hk12,hx12⟩:=hA_.tree_elem (i:=j) U
 have ho12:=hx12.one_
 refine Ja (v:=.pointer (some (ad12.add (j * 4)))) (Pa (i:=(j:Int)) Mg O hA12 O U U) (Ja (v:=.agg (List.toArray cs12)) (Fc (l:=cs12) isAgg27 sizeOf27 O hl12 (hF.cells0 hk12)) ?_)
 refine Pb (E3 a[j] _ _ cs12 (hF.rep hx12) (by have:=Xp U ((Fj hfa).2 _ (List.getElem_mem (l:=a) (n:=j) U)); omega) (by have:=Xp U ((Fj hfa).2 _ (List.getElem_mem (l:=a) (n:=j) U)); omega)) (Cb WS O O) ?_
 rintro _ w ⟨ct,rfl,hRt,hE⟩
 have hlt:ct.length=4:=hRt.length.trans (Dd _)
 have hot:=hRt.one_
 have hYX:=RX.made (ids:=[]++so.map (·.1)) hF.same.size (fun x hx=>hF.lt_ids (by grind)) hRt
 replace hDX:=hDX.ext hE
 replace hF:=hF.ext hE
 clear hE hRt
 refine Pe 1 hF (Qh (l:=ct) underlying22 sizeOf27 zeroValue27 Ua Ua O hlt) ?_
 clear hF; intro b3 w hb3 hF hE
 replace hDX:=hDX.alloc hE hb3
 replace hYX:=hYX.alloc hE hb3
 clear hE
 refine Kf [(b3,.cells (List.toArray ct) 27)] [] (news:=ct) (len':=j+1) (ys:=vals++ct) F0 hF hS O O (by rw [hlt]) (fun _=>⟨_,O,Xb (hF.cellsAll 0 O)⟩) (Pl hot) (by simp only [maxLen]; omega) (O) (O) U ?_
 clear hF; intro A13 c13 o_13 w hS13_o hF hE hnew
 replace hDX:=hDX.app (l:=[b3]) hE hnew
 replace hYX:=hYX.app (l:=[b3]) hE hnew
 clear hE hnew
 refine Ca (Sh O) (Xa (Eb (Ga (Fa (Ca (Va O) (Ca (If (((j+1:Nat):Int)) O O) (Ca (Wb O) (Xa ?_))))))))
 refine Ib ⟨_,?_,j+1,A13,c13,o_13,vals++ct,O,U,(by assumption),(by rw [Gq U]; exact (hDX.append hYX).sub (by grind)),Am,hF.drop 1⟩
 omega
 refine Dc (Cc O ?_)
 refine Ga (Ha ?_)
 obtain rfl:j=a.length:=by omega
 rw [List.take_length] at hDX
 have hIN:Rep (fun _=>True) w (.slice (Wc a)) [.slice A1 a.length c1]:=(hS.rep (pre:=[]) (post:=[]) hF hDX Ma).weaken fun _ _ _=>trivial
 have hs01:=hF.same
 replace hA_:=hF.rep hA_
 replace hB_:=hF.rep hB_
 replace hG:=hG.ext hF.same
 obtain ⟨w0,hw0⟩:∃ u,u=w:=⟨_,rfl⟩
 replace hF:FR w0 [] [] w:=by rw [hw0]; exact FR.start w []
 rw [←hw0] at hIN hA_ hB_ hs01 hG
 clear hw0 hDX hS
 refine Fa (Ca (Yd O) (Ca (Yd O) ?_))
 refine Pb (U1 _ _ _ (hG.ext hF.same) a b A1 B c1 e (hF.rep hIN) (hF.rep hB_) hfa hfb) (Vb BL O O O) ?_
 rintro _ w ⟨Z1,y1,rfl,hr1,hE⟩
 replace hF:=hF.ext hE
 clear hE
 refine Ca (Ul O) (Ca (W4 O O) (Ca (Fm O O) (Ca (Fm O O) (Ca (Sh O) (Ca (Wb O) (Ca (Wb O) (Bc (Ca (Yd O) (Ca (Yd O) ?_)))))))))
 refine Pb (Wy _ _ _ (hG.ext hF.same) a b A B c e (hF.rep hA_) (hF.rep hB_) hfa hfb) (Vb GX O O O) ?_
 rintro _ w ⟨Z2,y2,rfl,hr2,hE⟩
 replace hr1:=hr1.ext hE
 replace hF:=hF.ext hE
 clear hE
 refine Ca (Ul O) (Ca (W4 O O) (Ca (Fm O O) (Ca (Fm O O) (Ca (Sh O) (Ca (Wb O) (Ca (Wb O) (Ea (Ha (Ia (Ca (Wb O) (Xa ?_)))))))))))
 refine Ga (Ta ?_)
 refine Lc (fun μ σ w=>∃ (i:Nat),μ=a.length - i∧(i≤a.length)∧(Rep (fun _=>True) w (Lj (PX a b)) [.slice Z1 (PX a b).length y1])∧(Rep (fun _=>True) w (Lj (PX a b)) [.slice Z2 (PX a b).length y2])∧AllEq σ [(0,.slice A a.length c),(5,.bool true),(7,.slice A1 a.length c1),(9,.slice (Z1) ((PX a b).length) (y1)),(10,.int .i64 (NX a b)),(11,.int .i64 (Dr a b)),(12,.slice (Z2) ((PX a b).length) (y2)),(13,.int .i64 (NX a b)),(14,.int .i64 (Dr a b)),(15,.int .i64 ((i:Int)))]∧FR w0 [] [] w) _ ⟨0,O,(Nat.zero_le _),(hr1),(hr2),⟨O,O,O,O,O,O,O,O,O,O,trivial⟩,hF⟩ ?_
 clear hF; rintro μ σ w ⟨i,rfl,hi,hr1,hr2,hs,hF⟩
 refine Cg.slots hs ?_
 clear hs; intro σ
 refine Ha (Ia (Ca (Va O) (Ca (Yd O) (Ca (Df underlying22 O) (Ca (Yg O O) (Ea ?_))))))
 refine Yb O O (fun hc2=>?_) (fun hc2=>?_)
 refine Qa (Ga (Ha (Ta (Ha ?_))))
 refine Uc [] (.free 0 (.free 1 (.free 2 (.free 3 (.free 4 (.free 5 (.free 6 (.free 7 (.act 8 (.free 9 .nil)))))))))) hF ?_
 clear hF; intro w hF hE
 replace hr1:=hr1.ext hE
 replace hr2:=hr2.ext hE
 clear hE
 refine ⟨fun wq=>FR w0 [] _ wq,hF,?_⟩
 refine Db O (Yd O) (Db O (Va O) ?_)
 obtain ⟨ad14,cs14,hA14,hl14,hk14,hx14⟩:=hIN.tree_elem (i:=i) U
 have ho14:=hx14.one_
 refine Oa O (v:=.pointer (some (ad14.add (i * 4)))) (fun w hC=>Pa (i:=(i:Int)) Mg O hA14 O U U) (Oa O (v:=.agg (List.toArray cs14)) (fun w hC=>Fc (l:=cs14) isAgg27 sizeOf27 O hl14 (hC.cells0 hk14)) (Db O (Yd O) (Db O (Va O) ?_)))
 obtain ⟨ad15,cs15,hA15,hl15,hk15,hx15⟩:=hA_.tree_elem (i:=i) U
 have ho15:=hx15.one_
 refine Oa O (v:=.pointer (some (ad15.add (i * 4)))) (fun w hC=>Pa (i:=(i:Int)) Mg O hA15 O U U) (Oa O (v:=.agg (List.toArray cs15)) (fun w hC=>Fc (l:=cs15) isAgg27 sizeOf27 O hl15 (hC.cells0 hk15)) ?_)
 refine Ye O (Ng (v':=.bool true) (M9 a[i] a[i] _ _ _ cs14 cs15 (hF.rep hx14) (hF.rep hx15)) (congrArg Value.bool (Kl _))) (Vb DR O O O) ?_
 rintro _ w ⟨rfl,hE⟩
 replace hF:=hF.ext hE
 replace hr1:=hr1.ext hE
 replace hr2:=hr2.ext hE
 clear hE
 refine ⟨hF,?_⟩
 refine Db O (Hc O) (Mc (Ga (Ia (Ca (Jc O) (Ca (Pn (b:=true) O) (Ea (Ie O (Qa (Eb (Ga (Fa ?_)))))))))))
 refine Ca (Va O) (Ca (If (((i+1:Nat):Int)) O O) (Ca (Wb O) (Xa ?_)))
 refine Ib ⟨_,?_,i+1,O,U,(hr1),(hr2),⟨O,O,O,O,O,O,O,O,O,O,trivial⟩,hF⟩
 omega
 refine Dc (Cc O ?_)
 refine Ga (Ia (Ca (Jc O) (Ca (Jc O) (Ca (Yd O) (Ca (Yd O) ?_)))))
 refine Pb (Ng (v':=.bool true) (Zq _ _ _ (PX a b) (PX a b) _ _ _ _ hr1 hr2) (congrArg Value.bool (decide_eq_true O))) (Vb V5 O O O) ?_
 rintro _ w ⟨rfl,hE⟩
 replace hF:=hF.ext hE
 replace hr1:=hr1.ext hE
 replace hr2:=hr2.ext hE
 clear hE
 refine Ca (Ic O O) (Ca (Jc O) (Ca (Va O) (Ca (Va O) (Ja (v:=.bool true) (Ce (Ig O O) (O)) (Ca (Ic O O) (Ca (Jc O) (Ca (Va O) (Ca (Va O) (Ja (v:=.bool true) (Ce (Ig O O) (O)) (Ca (Ic O O) (Ca (Hc O) (Ea ?_))))))))))))
 refine Td (v:=.bool true) O O ?_
 exact ⟨O,hs01.trans hF.same⟩
 refine Da (Da (Ca (Gc O O) (Ca (Hc O) (Ea (Ha (Ia (Ca (Jc O) (Ca (Pn (b:=false) O) (Ca (Jc O) (Da (Da ?_)))))))))))
 refine Da (Da (Da (Da (Da (Da (Da (Da (Da (Da (Da (Da (Da (Da ?_)))))))))))))
 refine Ca (Ic O O) (Ea (Ae O (Ia (Ca (Jc O) (Ca (Hc O) (Ea ?_))))))
 refine Td (v:=.bool true) O O ?_
 exact ⟨O,hF.same⟩
end Go.Scarf
