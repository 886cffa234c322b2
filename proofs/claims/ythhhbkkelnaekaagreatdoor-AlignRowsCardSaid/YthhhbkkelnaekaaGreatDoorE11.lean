/- A part of the proof. -/
import Derived.Test.YthhhbkkelnaekaaGreatDoorE9
set_option linter.all false
set_option maxHeartbeats 8000000
set_option maxRecDepth 10000
namespace Go.Scarf
open Go.RowKit Go.Proofs Go.Proofs.Tryz
def AF (x:Tree):Prop:=∀ S w0 cs,Rep S w0 (Vc x) cs→Fe nodeB x=true→Oc x≤1000000000→WM 81 #[.agg cs.toArray] (Vc (Cj x)) w0
theorem TJ {ks:List Str} {j:Nat} (h:j < ks.length):(ks.take (j+1)).map (fun s=>Value.string (bs s))=(ks.take j).map (fun s=>Value.string (bs s))++[Value.string (bs ks[j])]:=by
  rw [List.take_succ_eq_append_getElem h,List.map_append]; rfl
theorem C9 {S:Nat→Prop} {wx:World}:∀ {q:List Str},(∀ s∈q,s.length≤9223372036854775807)→RepL S wx (q.map Wp) (q.map fun s=>Value.string (bs s))
  | [],_=>RepL.nil_mk
  | s::q,h=>RepL.cons_mk (Rep.lit_mk (v:=.string (bs s)) (h s Ma)) (C9 fun x hx=>h x (by simp [hx]))
theorem FF (k:Int) (t:Str) (ks:List Str) (xs:List Tree) (ih:∀ x,x∈xs→AF x):AF (.node k t ks xs):=by
 intro S w0 cs hR hnx hsz
 replace hR:=hR.old
 have hkl_:=PG _ hnx
 rw [Vn] at hkl_
 rw [Oc] at hsz hkl_
 have hxn:=Jn xs
 replace hnx:=Kg hnx
 obtain ⟨A,c,B,e,rfl,hk,ht,hK,hX⟩:=hR.tree_inv
 have hXl:=hX.slice_len
 have hKn:k=6→ks.length=xs.length:=fun e=>(Us (e ▸ hnx.1)).2
 obtain ⟨eK,hrK,hKl,hKc⟩:=hK.slice_open (T7 ks)
 have hks2:∀ s∈Lg ks,s.length≤9223372036854775807:=fun s hs=>by obtain ⟨q,hq,rfl⟩:=List.mem_iff_getElem.1 (Nr.1 hs); obtain ⟨_,_,_,h⟩:=hK.str_elem hq; exact h
 refine Ka func81 O ntmps81 Kb (Sc _) ?_
 have hF:=FR.start w0 []
 refine Ia ?_
 refine Bh hF O ?_
 clear hF; rintro b1 w hb1 hF -
 refine Fg (cs:=#[.int .i64 0,.string (bs []),.slice none 0 0,.slice none 0 0]) hF zeroValue27 O ?_
 clear hF; rintro b2 w hb2 hF -
 refine Bc (Ca (Ec Ke O) (Tc (Hl isAgg3 O hF.F 1 O O) (Ca (Ec Of O) (Tc (Tp isAgg9 O hF.F 1 O O) ?_))))
 refine Ja (w':=w) (v:=.agg #[.int .i64 k,.string (bs t),.slice none 0 0,.slice none 0 0]) Qb ?_
 refine Ym hF zeroValue27 sizeOf27 O ?_
 clear hF; rintro b3 w hb3 hF -
 refine Bc ?_
 refine Pe 0 hF (Qq underlying25 sizeOf9) ?_
 clear hF; rintro b4 w hb4 hF -
 refine Ca (Ec Af O) (Tc (Mf isAgg25 O hF.F 3 O O) ?_)
 have hS0:SlB 9 1 (some ⟨b4,0,none⟩) 0 0 [] [(b4,.cells #[] 9)]:=⟨by simp,.inr ⟨b4,#[],rfl,rfl,Nat.le_refl _,Nat.zero_le _,by simp,by simp⟩⟩
 replace hF:=hF.toseg 0 rfl
 refine Kf [(b3,.cells #[.int .i64 k,.string (bs t),.slice none 0 0,.slice none 0 0] 27),(b2,.cells #[.int .i64 0,.string (bs []),.slice none 0 0,.slice none 0 0] 27),(b1,.cells #[.int .i64 k,.string (bs t),.slice A ks.length c,.slice B xs.length e] 27)] [] (news:=eK) (len':=ks.length) (ys:=eK) Zm hF hS0 rfl rfl (by rw [hKl]) (fun hk=>by obtain ⟨ad,hA,hc⟩:=hKc hk; exact ⟨ad,hA,Xb (hF.cells0 hc)⟩) (Pl hrK.one_) (by simp only [maxLen]; omega) (Nat.zero_add _) (rfl) U ?_
 clear hF; intro A0 c0 a_0 w hS0_a hF hE hnew
 clear hE hnew
 refine Ca (Sh O) (Ea (Ha (Ta ?_)))
 have hL:RX w0 [b3,b2,b1] w [Hf ks] [.slice A0 ks.length c0]:=JK hF hS0_a hrK rfl
 replace hF:=hF.noseg
 refine Lc (fun μ σ w=>∃ (j:Nat),∃ (l:List Str),∃ (nl:Nat),∃ (AL:Option Addr),∃ (cl:Nat),∃ (AK:Option Addr),∃ (cK:Nat),∃ (AI:Option Addr),∃ (cI:Nat),∃ (sq:List (Nat × Obj)),∃ (si:List (Nat × Obj)),∃ (cs1:List Value),μ=nl+1∧(j≤ks.length)∧(k≠6→j=0)∧(nl=l.length)∧(l.Perm ((Lg ks).drop j))∧(RX w0 ([b3,b2,b1]++(sq.map (·.1)++si.map (·.1))) w [Hf l] [.slice AL nl cl])∧(SlB 9 1 AK j cK (((Lg ks).take j).map fun s=>Value.string (bs s)) sq)∧(SlB 27 4 AI j cI cs1 si)∧(RX w0 ([b3,b2,b1]++(sq.map (·.1)++si.map (·.1))) w (Wc ((Hz ks xs).take j)) cs1)∧AllEq σ [(1,.pointer (some ⟨b1,0,none⟩)),(2,.pointer (some ⟨b2,0,none⟩)),(3,.pointer (some ⟨b3,0,none⟩)),(4,.slice AL nl cl)]∧FR w0 [] ([(b3,.cells #[.int .i64 k,.string (bs t),.slice AK j cK,.slice AI j cI] 27),(b2,.cells #[.int .i64 0,.string (bs []),.slice none 0 0,.slice none 0 0] 27),(b1,.cells #[.int .i64 k,.string (bs t),.slice A ks.length c,.slice B xs.length e] 27)]++(sq++(si++[]))) w) _ ⟨0,ks,ks.length,_,_,none,0,none,0,[],[],[],O,(Nat.zero_le _),(fun _=>rfl),(O),(by rw [List.drop_zero]; exact (Up ks).symm),(by simpa using hL),(SlB.nil _ _),(SlB.nil _ _),(RX.nil),Gm,hF⟩ ?_
 clear hF; rintro μ σ w ⟨j,l,nl,AL,cl,AK,cK,AI,cI,sq,si,cs1,rfl,hj,hk6,hnl,hlp,hL,hSq,hSi,hDX,hs,hF⟩
 refine Cg.slots hs ?_
 clear hs; intro σ
 have hLc:=hL.rep.slice_len.2
 refine Ha (Ia (Ca (Ec Ke O) (Tc (Hl isAgg3 O hF.F 2 O O) (Ca (Th O O) (Ca (Jc O) ?_)))))
 refine Hb (d:=20) O (fun hg1=>?_) (fun hg1=>?_)
 refine Ca (Yd O) (Ca (Df underlying25 O) (Ca (Ho O O) (Ca (Ic O O) (Ea ?_))))
 refine Yb O O (fun hc0=>?_) (fun hc0=>?_)
 refine Qa (Ga (Ta (Ia (Ca (Wb O) (Ea (Ha (Ia (Ca (Wb O) (Ea ?_)))))))))
 refine Ta ?_
 have h6:k=6:=by omega
 refine Lc (fun μ σ w=>∃ (m:Nat),∃ (i:Nat),μ=nl - i∧(m < l.length)∧(i≤nl∧1≤i)∧(RX w0 ([b3,b2,b1]++(sq.map (·.1)++si.map (·.1))) w [Hf l] [.slice AL nl cl])∧(RX w0 ([b3,b2,b1]++(sq.map (·.1)++si.map (·.1))) w (Wc ((Hz ks xs).take j)) cs1)∧(∀ (hm:m < l.length) q (h:q < l.length),q < i→Lr l[q] l[m]=false)∧AllEq σ [(1,.pointer (some ⟨b1,0,none⟩)),(2,.pointer (some ⟨b2,0,none⟩)),(3,.pointer (some ⟨b3,0,none⟩)),(4,.slice AL nl cl),(5,.int .i64 ((m:Int))),(6,.int .i64 ((i:Int)))]∧FR w0 [] ([(b3,.cells #[.int .i64 k,.string (bs t),.slice AK j cK,.slice AI j cI] 27),(b2,.cells #[.int .i64 0,.string (bs []),.slice none 0 0,.slice none 0 0] 27),(b1,.cells #[.int .i64 k,.string (bs t),.slice A ks.length c,.slice B xs.length e] 27)]++(sq++(si++[]))) w) _ ⟨0,1,rfl,U,U,(hL),(hDX),(fun hm q h hq=>by obtain rfl:q=0:=U; rw [At,decide_eq_false_iff_not]; exact List.lt_irrefl _),Iu,hF⟩ ?_
 clear hF; rintro μ σ w ⟨m,i,rfl,hm,hi,hL,hDX,hmin,hs,hF⟩
 refine Cg.slots hs ?_
 clear hs; intro σ
 refine Ha (Ia (Ca (Va O) (Ca (Yd O) (Ca (Df underlying25 O) (Ca (Yg O O) (Ea ?_))))))
 refine Yb O O (fun hc1=>?_) (fun hc1=>?_)
 refine Qa (Ga (Ha (Ta (Ha ?_))))
 obtain ⟨ad,hAd⟩:=Ny hL U
 refine Uc [] (.free 0 (.free 1 (.free 2 (.free 3 (.free 4 (.free 5 (.free 6 (.free 7 (.free 8 .nil))))))))) hF ?_
 clear hF; intro w hF hE
 replace hL:=hL.ext hE
 replace hDX:=hDX.ext hE
 clear hE
 refine ⟨fun wq=>FR w0 [] [(b3,.cells #[.int .i64 k,.string (bs t),.slice AK j cK,.slice AI j cI] 27),(b2,.cells #[.int .i64 0,.string (bs []),.slice none 0 0,.slice none 0 0] 27),(b1,.cells #[.int .i64 k,.string (bs t),.slice A ks.length c,.slice B xs.length e] 27)] wq∧∀ q (h:q < l.length),wq.cell? (ad.add (q * 1))=some (.string (bs l[q])),⟨hF.sub (.cons_cons _ (.cons_cons _ (.cons_cons _ (List.nil_sublist _)))),Ni hL hAd⟩,?_⟩
 refine Db O (Yd O) (Db O (Va O) (Oa O (v:=.pointer (some (ad.add (i * 1)))) (fun w hC=>Pa (i:=(i:Int)) Gk O hAd O U U) (Oa O (v:=.string (bs ((l[i]'U)))) (fun w hC=>Ya isAgg9 O (hC.2 i U)) (Db O (Yd O) (Db O (Va O) (Oa O (v:=.pointer (some (ad.add (m * 1)))) (fun w hC=>Pa (i:=(m:Int)) Gk O hAd O U U) (Oa O (v:=.string (bs ((l[m]'U)))) (fun w hC=>Ya isAgg9 O (hC.2 m U)) (Db O (yss O O) (Mc (Ga ?_))))))))))
 refine Mi O O (fun hc2=>?_) (fun hc2=>?_)
 refine Fa (Ca (Va O) (Ca (Wb O) (Xa (Eb (Ga (Fa (Ca (Va O) (Ca (If (((i+1:Nat):Int)) O O) (Ca (Wb O) (Xa ?_))))))))))
 refine Ib ⟨_,?_,i,i+1,O,U,U,(hL),(hDX),(fun _=>GS hm U (hmin hm) (by assumption)),Iu,hF⟩
 omega
 refine Qa (Eb (Ga (Fa (Ca (Va O) (Ca (If (((i+1:Nat):Int)) O O) (Ca (Wb O) (Xa ?_)))))))
 refine Ib ⟨_,?_,m,i+1,O,U,U,(hL),(hDX),(fun _=>LO hm U (hmin hm) (by assumption)),Iu,hF⟩
 omega
 refine Dc (Cc O ?_)
 refine Ga (Ha ?_)
 obtain ⟨hjs,hmj⟩:=GQ hlp (m:=m) hm (fun q h=>hmin hm q h U)
 obtain ⟨ad,hAd⟩:=Ny hL U
 refine Uc [9] (.free 0 (.free 1 (.free 2 (.free 3 (.free 4 (.free 5 (.act 6 (.act 7 (.free 8 (.act 9 .nil)))))))))) hF ?_
 clear hF; intro w hF hE
 replace hL:=hL.ext hE
 replace hDX:=hDX.ext hE
 clear hE
 refine ⟨fun wq=>FR w0 [] [(b3,.cells #[.int .i64 k,.string (bs t),.slice AK j cK,.slice AI j cI] 27),(b2,.cells #[.int .i64 0,.string (bs []),.slice none 0 0,.slice none 0 0] 27),(b1,.cells #[.int .i64 k,.string (bs t),.slice A ks.length c,.slice B xs.length e] 27)] wq∧∀ q (h:q < l.length),wq.cell? (ad.add (q * 1))=some (.string (bs l[q])),⟨hF.sub (.cons_cons _ (.cons_cons _ (.cons_cons _ (List.nil_sublist _)))),Ni hL hAd⟩,?_⟩
 refine Db O (Ec Af O) (Uk O (Mf isAgg25 O C1 0 O O) (Db O (Yd O) (Db O (Va O) (Oa O (v:=.pointer (some (ad.add (m * 1)))) (fun w hC=>Pa (i:=(m:Int)) Gk O hAd O U U) (Oa O (v:=.string (bs ((l[m]'U)))) (fun w hC=>Ya isAgg9 O (hC.2 m U)) ?_)))))
 refine Ge 1 O hF (Za (cs:=#[.string (bs ((l[m]'U)))]) underlying25 sizeOf9 zeroValue9 Ua Ua Qb) ?_
 clear hF; intro b5 w hb5 hF hE
 replace hL:=hL.alloc hE hb5
 replace hDX:=hDX.alloc hE hb5
 clear hE
 refine ⟨⟨hF.sub (.cons _ (.cons_cons _ (.cons_cons _ (.cons_cons _ (List.nil_sublist _))))),Ni hL hAd⟩,?_⟩
 refine Rc [(b5,.cells #[.string (bs ((l[m]'U)))] 9),(b3,.cells #[.int .i64 k,.string (bs t),.slice AK j cK,.slice AI j cI] 27),(b2,.cells #[.int .i64 0,.string (bs []),.slice none 0 0,.slice none 0 0] 27),(b1,.cells #[.int .i64 k,.string (bs t),.slice A ks.length c,.slice B xs.length e] 27)] (si++[]) (news:=[.string (bs ((l[m]'U)))]) (len':=j+1) (ys:=((Lg ks).take (j+1)).map (fun s=>Value.string (bs s))) O Zm hF hSq O O (O) (fun _=>⟨_,O,Xb (hF.cellsAll 0 O)⟩) (by simp [Value.oneCell']) (by simp only [maxLen]; omega) (O) (by rw [TJ hjs,←hmj]) U ?_
 clear hF; intro A2 c2 q_2 w hS2_q hF hE hnew
 replace hL:=hL.step (ids':=[b5,b3,b2,b1]++(q_2.map (·.1)++si.map (·.1))) hE (by grind) (by grind)
 replace hDX:=hDX.step (ids':=[b5,b3,b2,b1]++(q_2.map (·.1)++si.map (·.1))) hE (by grind) (by grind)
 clear hE hnew
 refine ⟨⟨hF.sub (.cons _ (.cons_cons _ (.cons_cons _ (.cons_cons _ (List.nil_sublist _))))),Ni hL hAd⟩,?_⟩
 refine Db O (Ec Af O) ?_
 refine Ad O 1 (l:=[.slice (A2) (j+1) (c2)]) (cs':=#[.int .i64 k,.string (bs t),.slice (A2) (j+1) (c2),.slice AI j cI]) hF sizeOf25 O (v:=.slice (A2) (j+1) (c2)) O O Ed O Kb O ?_
 clear hF; intro w hF hE
 replace hL:=hL.store hE (by grind)
 replace hDX:=hDX.store hE (by grind)
 clear hE
 replace hF:FR w0 [] ([(b5,.cells #[.string (bs ((l[m]'U)))] 9),(b3,.cells #[.int .i64 k,.string (bs t),.slice (A2) (j+1) (c2),.slice AI j cI] 27),(b2,.cells #[.int .i64 0,.string (bs []),.slice none 0 0,.slice none 0 0] 27),(b1,.cells #[.int .i64 k,.string (bs t),.slice A ks.length c,.slice B xs.length e] 27)]++(q_2++(si++[]))) w:=hF
 refine Mc (Ga (Ha ?_))
 refine Uc [16] (.free 0 (.free 1 (.free 2 (.free 3 (.free 4 (.free 5 (.free 6 (.free 7 (.free 8 (.act 9 (.free 10 (.free 11 (.act 12 (.act 13 (.act 14 (.free 15 (.act 16 .nil))))))))))))))))) hF ?_
 clear hF; intro w hF hE
 replace hL:=hL.ext hE
 replace hDX:=hDX.ext hE
 clear hE
 refine ⟨fun wq=>FR w0 [] [(b5,.cells #[.string (bs ((l[m]'U)))] 9),(b3,.cells #[.int .i64 k,.string (bs t),.slice (A2) (j+1) (c2),.slice AI j cI] 27),(b2,.cells #[.int .i64 0,.string (bs []),.slice none 0 0,.slice none 0 0] 27),(b1,.cells #[.int .i64 k,.string (bs t),.slice A ks.length c,.slice B xs.length e] 27)] wq∧∀ q (h:q < l.length),wq.cell? (ad.add (q * 1))=some (.string (bs l[q])),⟨hF.sub (.cons_cons _ (.cons_cons _ (.cons_cons _ (.cons_cons _ (List.nil_sublist _))))),Ni hL hAd⟩,?_⟩
 refine Db O (Ec Pc O) (Uk O (Mf isAgg22 O C1 1 O O) (Db O (Ec Pc O) (Uk O (Mf isAgg22 O C1 3 O O) (Uk O (Wj isAgg27 sizeOf27 O C1 3 O O) (Db O (Yd O) (Db O (Va O) (Oa O (v:=.pointer (some (ad.add (m * 1)))) (fun w hC=>Pa (i:=(m:Int)) Gk O hAd O U U) (Oa O (v:=.string (bs ((l[m]'U)))) (fun w hC=>Ya isAgg9 O (hC.2 m U)) ?_))))))))
 refine Ye O (at_c k t ks xs (l[m]'U) _ _ _ (hF.rep hR)) (Vb CV O O O) ?_
 rintro _ w ⟨rfl,hE⟩
 obtain ⟨q,hq⟩:∃ q:Nat,HS ks (l[m]'U)=(q:Int):=by have hmem:l[m]'U∈ks:=(by rw [hmj]; exact Nr.1 (List.getElem_mem hjs)); refine ⟨ks.idxOf (l[m]'U),?_⟩; rw [HS,if_pos hmem]
 rw [hq]
 obtain ⟨hqx,hlook⟩:=IS (xs:=xs) (hKn h6) hq
 rw [hmj] at hlook
 replace hF:=hF.ext hE
 replace hL:=hL.ext hE
 replace hDX:=hDX.ext hE
 clear hE
 refine ⟨⟨hF.sub (.cons_cons _ (.cons_cons _ (.cons_cons _ (.cons_cons _ (List.nil_sublist _))))),Ni hL hAd⟩,?_⟩
 obtain ⟨ad3,CL,hA3,hl3,hk3,hx3⟩:=hX.tree_elem (i:=q) (hqx)
 have ho3:=hx3.one_
 refine Oa O (v:=.pointer (some (ad3.add (q * 4)))) (fun w hC=>Pa (i:=(q:Int)) Mg O hA3 O U U) (Oa O (v:=.agg (List.toArray CL)) (fun w hC=>Fc (l:=CL) isAgg27 sizeOf27 O hl3 (hC.1.cells0 hk3)) ?_)
 refine Ye O (ih (xs[q]'hqx) (List.getElem_mem hqx) _ _ CL (hF.rep hx3) (hnx.2 _ (List.getElem_mem hqx)) (by have:=Rf (List.getElem_mem hqx); omega)) (Cb JP O O) ?_
 rintro _ w ⟨ct,rfl,hRt,hE⟩
 have hlt:ct.length=4:=hRt.length.trans (Dd _)
 have hot:=hRt.one_
 have hYX:=RX.made (ids:=[b5,b3,b2,b1]++(q_2.map (·.1)++si.map (·.1))) hF.same.size (fun x hx=>hF.lt_ids (by grind)) hRt
 replace hDX:=(hDX.ext hE).append hYX
 replace hL:=hL.ext hE
 replace hF:=hF.ext hE
 clear hE hYX
 refine ⟨⟨hF.sub (.cons_cons _ (.cons_cons _ (.cons_cons _ (.cons_cons _ (List.nil_sublist _))))),Ni hL hAd⟩,?_⟩
 refine Ge 1 O hF (Qh (l:=ct) underlying22 sizeOf27 zeroValue27 Ua Ua O hlt) ?_
 clear hF; intro b6 w hb6 hF hE
 replace hL:=hL.alloc hE hb6
 replace hDX:=hDX.alloc hE hb6
 clear hE
 refine ⟨⟨hF.sub (.cons _ (.cons_cons _ (.cons_cons _ (.cons_cons _ (.cons_cons _ (List.nil_sublist _)))))),Ni hL hAd⟩,?_⟩
 refine Rc ([(b6,.cells (List.toArray ct) 27),(b5,.cells #[.string (bs ((l[m]'U)))] 9),(b3,.cells #[.int .i64 k,.string (bs t),.slice (A2) (j+1) (c2),.slice AI j cI] 27),(b2,.cells #[.int .i64 0,.string (bs []),.slice none 0 0,.slice none 0 0] 27),(b1,.cells #[.int .i64 k,.string (bs t),.slice A ks.length c,.slice B xs.length e] 27)]++q_2) [] (news:=ct) (len':=j+1) (ys:=cs1++ct) O F0 hF hSi O O (by rw [hlt]) (fun _=>⟨_,O,Xb (hF.cellsAll 0 O)⟩) (Pl hot) (by simp only [maxLen]; omega) (O) (O) U ?_
 clear hF; intro A4 c4 i_4 w hS4_i hF hE hnew
 replace hL:=hL.step (ids':=[b6,b5,b3,b2,b1]++(q_2.map (·.1)++i_4.map (·.1))) hE (by grind) (by grind)
 replace hDX:=hDX.step (ids':=[b6,b5,b3,b2,b1]++(q_2.map (·.1)++i_4.map (·.1))) hE (by grind) (by grind)
 clear hE hnew
 refine ⟨⟨hF.sub (.cons _ (.cons_cons _ (.cons_cons _ (.cons_cons _ (.cons_cons _ (List.nil_sublist _)))))),Ni hL hAd⟩,?_⟩
 refine Db O (Ec Pc O) ?_
 refine Ad O 2 (l:=[.slice (A4) (j+1) (c4)]) (cs':=#[.int .i64 k,.string (bs t),.slice (A2) (j+1) (c2),.slice (A4) (j+1) (c4)]) hF sizeOf22 O (v:=.slice (A4) (j+1) (c4)) O O Ed O Kb O ?_
 clear hF; intro w hF hE
 replace hL:=hL.store hE (by grind)
 replace hDX:=hDX.store hE (by grind)
 clear hE
 replace hF:FR w0 [] ([(b6,.cells (List.toArray ct) 27),(b5,.cells #[.string (bs ((l[m]'U)))] 9),(b3,.cells #[.int .i64 k,.string (bs t),.slice (A2) (j+1) (c2),.slice (A4) (j+1) (c4)] 27),(b2,.cells #[.int .i64 0,.string (bs []),.slice none 0 0,.slice none 0 0] 27),(b1,.cells #[.int .i64 k,.string (bs t),.slice A ks.length c,.slice B xs.length e] 27)]++(q_2++(i_4++[]))) w:=hF
 refine Mc (Ga ?_)
 refine Uc [] (.free 0 (.free 1 (.free 2 (.free 3 (.free 4 (.free 5 (.free 6 (.free 7 (.act 8 (.free 9 .nil)))))))))) hF ?_
 clear hF; intro w hF hE
 replace hL:=hL.ext hE
 replace hDX:=hDX.ext hE
 clear hE
 refine ⟨fun wq=>FR w0 [] [(b6,.cells (List.toArray ct) 27),(b5,.cells #[.string (bs ((l[m]'U)))] 9),(b3,.cells #[.int .i64 k,.string (bs t),.slice (A2) (j+1) (c2),.slice (A4) (j+1) (c4)] 27),(b2,.cells #[.int .i64 0,.string (bs []),.slice none 0 0,.slice none 0 0] 27),(b1,.cells #[.int .i64 k,.string (bs t),.slice A ks.length c,.slice B xs.length e] 27)] wq,hF.sub (.cons_cons _ (.cons_cons _ (.cons_cons _ (.cons_cons _ (.cons_cons _ (List.nil_sublist _)))))),?_⟩
 refine Db O (Yd O) (Db O (Va O) (Db O (Va O) ?_))
 refine Oa O (v:=.slice AL m m) (fun w hC=>VK m Gk O O O (by have:=hLc; omega)) ?_
 refine Db O (Yd O) (Db O (Va O) (Db O (If (((m+1:Nat):Int)) O O) (Oa O (v:=.slice (if cl=m+1 then AL else AL.map (·.add ((m+1) * 1))) (nl - (m+1)) (cl - (m+1))) (fun w hC=>RK (m+1) Gk O O U) ?_)))
 replace hF:FR w0 [] ([(b6,.cells (List.toArray ct) 27),(b5,.cells #[.string (bs ((l[m]'U)))] 9),(b3,.cells #[.int .i64 k,.string (bs t),.slice (A2) (j+1) (c2),.slice (A4) (j+1) (c4)] 27),(b2,.cells #[.int .i64 0,.string (bs []),.slice none 0 0,.slice none 0 0] 27),(b1,.cells #[.int .i64 k,.string (bs t),.slice A ks.length c,.slice B xs.length e] 27)]++(q_2++(i_4++[]))) w:=hF
 have hnb:=hlp.length_eq
 rw [List.length_drop,Zf] at hnb
 have hkx:=hKn h6
 obtain ⟨AL2,cl2,w2,hr2,hL2,hE⟩:=SA (w:=w) (ty:=25) Zm hL (show m < nl by omega) (fun b hb=>hF.lt_ids (by grind)) hF.same.size U U
 replace hF:=hF.ext hE
 replace hDX:=hDX.ext hE
 refine Xe O (Bx O O hr2) (hF.sub (.cons_cons _ (.cons_cons _ (.cons_cons _ (.cons_cons _ (.cons_cons _ (List.nil_sublist _))))))) ?_
 clear hE hr2
 refine Db O (Sh O) (Mc (Eb ?_))
 refine Ib ⟨_,?_,j+1,l.eraseIdx m,nl - 1,AL2,cl2,A2,c2,A4,c4,q_2,i_4,cs1++ct,O,(by rw [Zf] at hjs; omega),(fun h=>absurd h6 h),(by rw [List.length_eraseIdx,if_pos U,←hnl]),(MF hlp U hjs hmj),(hL2.sub (by grind)),(hS2_q),(hS4_i),(by rw [H7 hjs hlook]; exact hDX.sub (by grind)),Gm,hF.drop 2⟩
 omega
 refine Dc (Cc O ?_)
 refine Ga (Ha (Ia (Ca (Wb O) (Ea (Ta ?_)))))
 refine Lc (fun μ σ w=>μ=0∧(RX w0 ([b3,b2,b1]++(sq.map (·.1)++si.map (·.1))) w [Hf l] [.slice AL nl cl])∧(RX w0 ([b3,b2,b1]++(sq.map (·.1)++si.map (·.1))) w (Wc ((Hz ks xs).take j)) cs1)∧AllEq σ [(1,.pointer (some ⟨b1,0,none⟩)),(2,.pointer (some ⟨b2,0,none⟩)),(3,.pointer (some ⟨b3,0,none⟩)),(7,.int .i64 ((0:Int)))]∧FR w0 [] ([(b3,.cells #[.int .i64 k,.string (bs t),.slice AK j cK,.slice AI j cI] 27),(b2,.cells #[.int .i64 0,.string (bs []),.slice none 0 0,.slice none 0 0] 27),(b1,.cells #[.int .i64 k,.string (bs t),.slice A ks.length c,.slice B xs.length e] 27)]++(sq++(si++[]))) w) _ ⟨O,(hL),(hDX),Gm,hF⟩ ?_
 clear hF; rintro μ σ w ⟨rfl,hL,hDX,hs,hF⟩
 refine Cg.slots hs ?_
 clear hs; intro σ
 refine Ha (Ia (Ca (Va O) (Ca (Ec Pc O) (Tc (Mf isAgg22 O hF.F 2 O O) (Ca (Df underlying22 O) (Ca (Yg O O) (Ca (Jc O) ?_)))))))
 refine Hb (d:=80) O (fun hg5=>?_) (fun hg5=>?_)
 refine Ca (Ec Ke O) (Tc (Hl isAgg3 O hF.F 2 O O) (Ja (v:=.bool false) (Zc (Ir O O) U) (Ca (Ic O O) (Ea (Ie O ?_)))))
 refine Dc (Cc O ?_)
 refine Ga (Ia (Tc (Wj isAgg27 sizeOf27 O hF.F 0 O O) ?_))
 refine Me 1 (l:=[.int .i64 k,.string (bs t),.slice AK j cK,.slice AI j cI]) (cs':=#[.int .i64 k,.string (bs t),.slice AK j cK,.slice AI j cI]) hF sizeOf27 O (v:=.agg #[.int .i64 k,.string (bs t),.slice AK j cK,.slice AI j cI]) O O Ed O Kb O ?_
 clear hF; intro w hF hE
 replace hL:=hL.store hE (by grind)
 replace hDX:=hDX.store hE (by grind)
 clear hE
 replace hF:FR w0 [] ([(b3,.cells #[.int .i64 k,.string (bs t),.slice AK j cK,.slice AI j cI] 27),(b2,.cells #[.int .i64 k,.string (bs t),.slice AK j cK,.slice AI j cI] 27),(b1,.cells #[.int .i64 k,.string (bs t),.slice A ks.length c,.slice B xs.length e] 27)]++(sq++(si++[]))) w:=hF
 refine Ea ?_
 refine Ub (Rb (Sa (Bn O (l:=[.int .i64 k,.string (bs t),.slice AK j cK,.slice AI j cI]) O isAgg27 sizeOf27 O (hF.cellsAll 1 O)) ?_))
 refine ⟨_,O,?_,hF.same⟩
 have h1:=hlp.length_eq
 rw [List.length_drop,Zf] at h1
 have ej:j=ks.length:=by omega
 subst ej
 rw [List.take_of_length_le (by rw [Sp]; exact Nat.le_refl _)] at hDX
 rw [List.take_of_length_le (by rw [Zf]; exact Nat.le_refl _)] at hSq
 rw [Cj,if_pos (show k=6 by omega)]
 have hKX:RX w0 [] w ((Lg ks).map Wp) _:=C9 hks2
 exact Rep.tree_mk hk ht (hSq.rep (pre:=[_,_,_]) (post:=si++[]) hF hKX (by rw [List.length_map,Zf])) (hSi.rep (pre:=[_,_,_]++sq) (post:=[]) (by simpa using hF) hDX (by rw [Cf]; exact Sp ..))
 refine Da (Da (Da (Ca (Gc O O) (Ea (Ie O ?_)))))
 refine Dc (Cc O ?_)
 refine Ga (Ia (Tc (Wj isAgg27 sizeOf27 O hF.F 0 O O) ?_))
 refine Me 1 (l:=[.int .i64 k,.string (bs t),.slice AK j cK,.slice AI j cI]) (cs':=#[.int .i64 k,.string (bs t),.slice AK j cK,.slice AI j cI]) hF sizeOf27 O (v:=.agg #[.int .i64 k,.string (bs t),.slice AK j cK,.slice AI j cI]) O O Ed O Kb O ?_
 clear hF; intro w hF hE
 replace hL:=hL.store hE (by grind)
 replace hDX:=hDX.store hE (by grind)
 clear hE
 replace hF:FR w0 [] ([(b3,.cells #[.int .i64 k,.string (bs t),.slice AK j cK,.slice AI j cI] 27),(b2,.cells #[.int .i64 k,.string (bs t),.slice AK j cK,.slice AI j cI] 27),(b1,.cells #[.int .i64 k,.string (bs t),.slice A ks.length c,.slice B xs.length e] 27)]++(sq++(si++[]))) w:=hF
 refine Ea ?_
 refine Ub (Rb (Sa (Bn O (l:=[.int .i64 k,.string (bs t),.slice AK j cK,.slice AI j cI]) O isAgg27 sizeOf27 O (hF.cellsAll 1 O)) ?_))
 refine ⟨_,O,?_,hF.same⟩
 have h1:=hlp.length_eq
 rw [List.length_drop,Zf] at h1
 have ej:j=ks.length:=by omega
 subst ej
 rw [List.take_of_length_le (by rw [Sp]; exact Nat.le_refl _)] at hDX
 rw [List.take_of_length_le (by rw [Zf]; exact Nat.le_refl _)] at hSq
 rw [Cj,if_pos (show k=6 by omega)]
 have hKX:RX w0 [] w ((Lg ks).map Wp) _:=C9 hks2
 exact Rep.tree_mk hk ht (hSq.rep (pre:=[_,_,_]) (post:=si++[]) hF hKX (by rw [List.length_map,Zf])) (hSi.rep (pre:=[_,_,_]++sq) (post:=[]) (by simpa using hF) hDX (by rw [Cf]; exact Sp ..))
 refine Da (Da (Da (Ca (Gc O O) (Ea (Ie O ?_)))))
 refine Dc (Cc O ?_)
 refine Ga (Ha (Ia (Ca (Wb O) (Ea (Ta ?_)))))
 obtain rfl:j=0:=hk6 (by assumption)
 simp only [List.take_zero,Wc] at hDX
 obtain rfl:=RepL.nil_inv hDX
 refine Lc (fun μ σ w=>∃ (i2:Nat),∃ (AJ:Option Addr),∃ (cJ:Nat),∃ (sj:List (Nat × Obj)),∃ (cs2:List Value),μ=xs.length - i2∧(i2≤xs.length)∧(SlB 27 4 AJ i2 cJ cs2 sj)∧(RX w0 ([b3,b2,b1]++(sq.map (·.1)++sj.map (·.1))) w (Wc (Fh (xs.take i2))) cs2)∧AllEq σ [(1,.pointer (some ⟨b1,0,none⟩)),(2,.pointer (some ⟨b2,0,none⟩)),(3,.pointer (some ⟨b3,0,none⟩)),(7,.int .i64 ((i2:Int)))]∧FR w0 [] ([(b3,.cells #[.int .i64 k,.string (bs t),.slice AK 0 cK,.slice AJ i2 cJ] 27),(b2,.cells #[.int .i64 0,.string (bs []),.slice none 0 0,.slice none 0 0] 27),(b1,.cells #[.int .i64 k,.string (bs t),.slice A ks.length c,.slice B xs.length e] 27)]++(sq++(sj++[]))) w) _ ⟨0,AI,cI,si,[],O,(Nat.zero_le _),(hSi),(RX.nil),Gm,hF⟩ ?_
 clear hF; rintro μ σ w ⟨i2,AJ,cJ,sj,cs2,rfl,hi2,hSj,hDX,hs,hF⟩
 refine Cg.slots hs ?_
 clear hs; intro σ
 refine Ha (Ia (Ca (Va O) (Ca (Ec Pc O) (Tc (Mf isAgg22 O hF.F 2 O O) (Ca (Df underlying22 O) (Ca (Yg O O) (Ca (Jc O) ?_)))))))
 refine Hb (d:=80) O (fun hg6=>?_) (fun hg6=>?_)
 refine Ca (Ec Ke O) (Tc (Hl isAgg3 O hF.F 2 O O) (Ca (Sq O O) (Ca (Ic O O) (Ea ?_))))
 refine Yb O O (fun hc3=>?_) (fun hc3=>?_)
 refine Qa (Ga (Ha (Ta ?_)))
 refine Uc [11] (.free 0 (.free 1 (.free 2 (.free 3 (.free 4 (.free 5 (.free 6 (.act 7 (.act 8 (.act 9 (.free 10 (.act 11 .nil)))))))))))) hF ?_
 clear hF; intro w hF hE
 replace hDX:=hDX.ext hE
 clear hE
 refine ⟨fun wq=>FR w0 [] [(b3,.cells #[.int .i64 k,.string (bs t),.slice AK 0 cK,.slice AJ i2 cJ] 27),(b2,.cells #[.int .i64 0,.string (bs []),.slice none 0 0,.slice none 0 0] 27),(b1,.cells #[.int .i64 k,.string (bs t),.slice A ks.length c,.slice B xs.length e] 27)] wq,hF.sub (.cons_cons _ (.cons_cons _ (.cons_cons _ (List.nil_sublist _)))),?_⟩
 refine Db O (Ec Pc O) (Uk O (Mf isAgg22 O C0 0 O O) (Db O (Ec Pc O) (Uk O (Mf isAgg22 O C0 2 O O) (Db O (Va O) ?_))))
 obtain ⟨ad7,cs7,hA7,hl7,hk7,hx7⟩:=hX.tree_elem (i:=i2) U
 have ho7:=hx7.one_
 refine Oa O (v:=.pointer (some (ad7.add (i2 * 4)))) (fun w hC=>Pa (i:=(i2:Int)) Mg O hA7 O U U) (Oa O (v:=.agg (List.toArray cs7)) (fun w hC=>Fc (l:=cs7) isAgg27 sizeOf27 O hl7 (hC.cells0 hk7)) ?_)
 refine Ye O (ih xs[i2] (List.getElem_mem U) _ _ cs7 (hF.rep hx7) (hnx.2 _ (List.getElem_mem U)) (by have:=Rf (List.getElem_mem (l:=xs) (n:=i2) U); omega)) (Cb JP O O) ?_
 rintro _ w ⟨ct,rfl,hRt,hE⟩
 have hlt:ct.length=4:=hRt.length.trans (Dd _)
 have hot:=hRt.one_
 have hYX:=RX.made (ids:=[b3,b2,b1]++(sq.map (·.1)++sj.map (·.1))) hF.same.size (fun x hx=>hF.lt_ids (by grind)) hRt
 replace hDX:=(hDX.ext hE).append hYX
 replace hF:=hF.ext hE
 clear hE hYX
 refine ⟨hF.sub (.cons_cons _ (.cons_cons _ (.cons_cons _ (List.nil_sublist _)))),?_⟩
 refine Ge 1 O hF (Qh (l:=ct) underlying22 sizeOf27 zeroValue27 Ua Ua O hlt) ?_
 clear hF; intro b7 w hb7 hF hE
 replace hDX:=hDX.alloc hE hb7
 clear hE
 refine ⟨hF.sub (.cons _ (.cons_cons _ (.cons_cons _ (.cons_cons _ (List.nil_sublist _))))),?_⟩
 refine Rc ([(b7,.cells (List.toArray ct) 27),(b3,.cells #[.int .i64 k,.string (bs t),.slice AK 0 cK,.slice AJ i2 cJ] 27),(b2,.cells #[.int .i64 0,.string (bs []),.slice none 0 0,.slice none 0 0] 27),(b1,.cells #[.int .i64 k,.string (bs t),.slice A ks.length c,.slice B xs.length e] 27)]++sq) [] (news:=ct) (len':=i2+1) (ys:=cs2++ct) O F0 hF hSj O O (by rw [hlt]) (fun _=>⟨_,O,Xb (hF.cellsAll 0 O)⟩) (Pl hot) (by simp only [maxLen]; omega) (O) (O) U ?_
 clear hF; intro A8 c8 i_8 w hS8_i hF hE hnew
 replace hDX:=hDX.step (ids':=[b7,b3,b2,b1]++(sq.map (·.1)++i_8.map (·.1))) hE (by grind) (by grind)
 clear hE hnew
 refine ⟨hF.sub (.cons _ (.cons_cons _ (.cons_cons _ (.cons_cons _ (List.nil_sublist _))))),?_⟩
 refine Db O (Ec Pc O) ?_
 refine Ad O 1 (l:=[.slice (A8) (i2+1) (c8)]) (cs':=#[.int .i64 k,.string (bs t),.slice AK 0 cK,.slice (A8) (i2+1) (c8)]) hF sizeOf22 O (v:=.slice (A8) (i2+1) (c8)) O O Ed O Kb O ?_
 clear hF; intro w hF hE
 replace hDX:=hDX.store hE (by grind)
 clear hE
 replace hF:FR w0 [] ([(b7,.cells (List.toArray ct) 27),(b3,.cells #[.int .i64 k,.string (bs t),.slice AK 0 cK,.slice (A8) (i2+1) (c8)] 27),(b2,.cells #[.int .i64 0,.string (bs []),.slice none 0 0,.slice none 0 0] 27),(b1,.cells #[.int .i64 k,.string (bs t),.slice A ks.length c,.slice B xs.length e] 27)]++(sq++(i_8++[]))) w:=hF
 refine Mc (Eb (Ga (Fa (Ca (Va O) (Ca (If (((i2+1:Nat):Int)) O O) (Ca (Wb O) (Xa ?_)))))))
 refine Ib ⟨_,?_,i2+1,A8,c8,i_8,cs2++ct,O,U,(hS8_i),(by rw [I0 U]; exact hDX.sub (by grind)),Gm,hF.drop 1⟩
 omega
 refine Dc (Cc O ?_)
 refine Ga (Ia (Tc (Wj isAgg27 sizeOf27 O hF.F 0 O O) ?_))
 refine Me 1 (l:=[.int .i64 k,.string (bs t),.slice AK 0 cK,.slice AJ i2 cJ]) (cs':=#[.int .i64 k,.string (bs t),.slice AK 0 cK,.slice AJ i2 cJ]) hF sizeOf27 O (v:=.agg #[.int .i64 k,.string (bs t),.slice AK 0 cK,.slice AJ i2 cJ]) O O Ed O Kb O ?_
 clear hF; intro w hF hE
 replace hDX:=hDX.store hE (by grind)
 clear hE
 replace hF:FR w0 [] ([(b3,.cells #[.int .i64 k,.string (bs t),.slice AK 0 cK,.slice AJ i2 cJ] 27),(b2,.cells #[.int .i64 k,.string (bs t),.slice AK 0 cK,.slice AJ i2 cJ] 27),(b1,.cells #[.int .i64 k,.string (bs t),.slice A ks.length c,.slice B xs.length e] 27)]++(sq++(sj++[]))) w:=hF
 refine Ea ?_
 refine Ub (Rb (Sa (Bn O (l:=[.int .i64 k,.string (bs t),.slice AK 0 cK,.slice AJ i2 cJ]) O isAgg27 sizeOf27 O (hF.cellsAll 1 O)) ?_))
 refine ⟨_,O,?_,hF.same⟩
 have ej:i2=xs.length:=by omega
 subst ej
 rw [List.take_length] at hDX
 rw [Cj,if_neg (by assumption)]
 exact Rep.tree_mk hk ht (hSq.rep (pre:=[_,_,_]) (post:=sj++[]) hF (RX.nil (ids:=[])) O) (hSj.rep (pre:=[_,_,_]++sq) (post:=[]) (by simpa using hF) hDX (by rw [Cf,Xj,List.length_map]))
 refine Da (Da (Da (Ca (Gc O O) (Ea (Ie O ?_)))))
 refine Dc (Cc O ?_)
 refine Ga (Ia (Tc (Wj isAgg27 sizeOf27 O hF.F 0 O O) ?_))
 refine Me 1 (l:=[.int .i64 k,.string (bs t),.slice AK 0 cK,.slice AJ i2 cJ]) (cs':=#[.int .i64 k,.string (bs t),.slice AK 0 cK,.slice AJ i2 cJ]) hF sizeOf27 O (v:=.agg #[.int .i64 k,.string (bs t),.slice AK 0 cK,.slice AJ i2 cJ]) O O Ed O Kb O ?_
 clear hF; intro w hF hE
 replace hDX:=hDX.store hE (by grind)
 clear hE
 replace hF:FR w0 [] ([(b3,.cells #[.int .i64 k,.string (bs t),.slice AK 0 cK,.slice AJ i2 cJ] 27),(b2,.cells #[.int .i64 k,.string (bs t),.slice AK 0 cK,.slice AJ i2 cJ] 27),(b1,.cells #[.int .i64 k,.string (bs t),.slice A ks.length c,.slice B xs.length e] 27)]++(sq++(sj++[]))) w:=hF
 refine Ea ?_
 refine Ub (Rb (Sa (Bn O (l:=[.int .i64 k,.string (bs t),.slice AK 0 cK,.slice AJ i2 cJ]) O isAgg27 sizeOf27 O (hF.cellsAll 1 O)) ?_))
 refine ⟨_,O,?_,hF.same⟩
 have ej:i2=xs.length:=by omega
 subst ej
 rw [List.take_length] at hDX
 rw [Cj,if_neg (by assumption)]
 exact Rep.tree_mk hk ht (hSq.rep (pre:=[_,_,_]) (post:=sj++[]) hF (RX.nil (ids:=[])) O) (hSj.rep (pre:=[_,_,_]++sq) (post:=[]) (by simpa using hF) hDX (by rw [Cf,Xj,List.length_map]))
theorem QQ (x:Tree):AF x:=Tree.ind FF x
end Go.Scarf
