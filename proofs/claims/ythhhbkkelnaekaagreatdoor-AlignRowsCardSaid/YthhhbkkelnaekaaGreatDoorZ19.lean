/- A part of the proof. -/
import Derived.Test.YthhhbkkelnaekaaGreatDoorZ15
import Derived.Test.YthhhbkkelnaekaaGreatDoorZ11
import Derived.Test.YthhhbkkelnaekaaGreatDoorE14
import Derived.Test.YthhhbkkelnaekaaGreatDoorE12
import Derived.Test.YthhhbkkelnaekaaGreatDoorE9
import Derived.Test.YthhhbkkelnaekaaGreatDoorE7
set_option linter.all false
set_option maxHeartbeats 8000000
set_option maxRecDepth 10000
namespace Go.Scarf
open Go.RowKit Go.Proofs Go.Proofs.Tryz
def Two (w:World) (A:Option Addr) (c:Nat) (sl:List (Nat × Obj)) (ls:List Str) (A':Option Addr) (c':Nat) (sf:List (Nat × Obj)) (fs:List Int):Prop :=
  SlB 9 1 A ls.length c (Wu ls) sl∧SlB 3 1 A' fs.length c' (Qr fs) sf∧∀ q∈sl++sf,w.heap[q.1]? = some q.2
section
variable {w w' w0:World} {Ds:List Nat} {bs_ sl sf sl1 sf1:List (Nat × Obj)} {A A' A1 A1':Option Addr} {c c' c1 c1':Nat} {ls ls1:List Str} {fs fs1:List Int}
theorem Two.pw (h:Two w A c sl ls A' c' sf fs):(sl++sf).Pairwise (fun p q=>q.1≠p.1):=by
  obtain ⟨h4,h5,h6⟩:=h
  rw [List.pairwise_append]
  refine ⟨h4.pw,h5.pw,fun q hq r hr e=>?_⟩
  obtain ⟨cu,e1⟩:=h4.typ.2 q hq
  obtain ⟨cv,e2⟩:=h5.typ.2 r hr
  have h7:=h6 q (by simp [hq])
  have h8:=h6 r (by simp [hr])
  rw [←e,h8,e1,e2] at h7
  have:=Option.some.inj h7
  simp at this
theorem Two.start (h:Two w A c sl ls A' c' sf fs):FR w ((sl++sf).map (·.1)) ([]++(sl++(sf++[]))) w:=by
  rw [List.nil_append,List.append_nil]
  exact ⟨.refl _ _,fun q hq=>⟨h.2.2 q hq,.inr (List.mem_map_of_mem hq)⟩,h.pw⟩
theorem FR.two (hF:FR w0 Ds (bs_++(sl++(sf++[]))) w) (hL:SlB 9 1 A ls.length c (Wu ls) sl) (hN:SlB 3 1 A' fs.length c' (Qr fs) sf):Two w A c sl ls A' c' sf fs :=
  ⟨hL,hN,fun q hq=>(hF.own q (by rw [List.append_nil]; exact List.mem_append.2 (.inr hq))).1⟩
theorem FR.two_new (hF:FR w0 Ds (bs_++(sl++(sf++[]))) w):∀ q∈sl++sf,w0.heap.size≤q.1∨q.1∈Ds:=fun q hq=>(hF.own q (by rw [List.append_nil]; exact List.mem_append.2 (.inr hq))).2
theorem FR.swap (hF:FR w0 Ds (bs_++(sl++(sf++[]))) w) (hE:Same ((sl++sf).map (·.1)) w w') (hT:Two w' A1 c1 sl1 ls1 A1' c1' sf1 fs1) (hn:∀ q∈sl1++sf1,w.heap.size≤q.1∨q.1∈(sl++sf).map (·.1)):FR w0 Ds (bs_++(sl1++(sf1++[]))) w':=by
  have hD:=hF.two_new
  have hd:=hF.desc
  rw [List.append_nil,List.pairwise_append] at hd
  have hB:FR w0 Ds bs_ w:=hF.sub (List.sublist_append_left _ _)
  have hB':FR w0 Ds bs_ w':=hB.touch hE (fun b hb=>by
    obtain ⟨r,hr,rfl⟩:=List.mem_map.1 hb
    refine ⟨fun h=>(hD r hr).resolve_left U,fun z hz e=>hd.2.2 z hz r hr e.symm⟩)
  refine ⟨hB'.same,fun q hq=>?_,?_⟩
  · rw [List.append_nil] at hq
    rcases List.mem_append.1 hq with h | h
    · exact hB'.own q h
    · refine ⟨hT.2.2 q h, ?_⟩
      rcases hn q h with h1 | h1
      · exact .inl (Nat.le_trans hF.same.size h1)
      · obtain ⟨r, hr, e⟩ := List.mem_map.1 h1
        rw [←e]; exact hD r hr
  · rw [List.append_nil, List.pairwise_append]
    refine ⟨hd.1,hT.pw,fun z hz r hr e=>?_⟩
    rcases hn r hr with h1 | h1
    · have:=Ra (hB.memHeap hz); omega
    · obtain ⟨r', hr', e'⟩ := List.mem_map.1 h1
      exact hd.2.2 z hz r' hr' (e'.trans e)
theorem FR.repS {S:Nat→Prop} {d:D} {cs:List Value} (hF:FR w0 Ds bs_ w) (hR:Rep S w0 d cs) (hS:∀ b,S b→b < w0.heap.size∧b∉Ds):Rep S w d cs:=hR.same hF.same (fun b hb hs=>(hS b hs).2 hb)
theorem Ju (a:Addr) (n:Nat):(a.add n).block=a.block:=by unfold Addr.add; split <;> rfl
theorem C7 {E:List Nat} (hE:Same E w w') {a:Addr} {v:Value} (hb:a.block∉E) (h:w.cell? a=some v):w'.cell? a=some v:=by
  rw [←h]; exact World.cell?_of_block (w:=w) (hE.block _ (World.block_lt_of_cell? _ _ h) hb)
theorem Rep.tree_block {S:Nat→Prop} {xs:List Tree} {ad:Addr} {len c:Nat} (h:Rep S w (.slice (Wc xs)) [.slice (some ad) len c]) (hi:0 < xs.length):S ad.block:=by
  obtain ⟨A',c',hA,_,_,hr⟩:=Rep.slice_inv h
  simp only [List.cons.injEq,Value.slice.injEq,and_true] at hA
  have hne:Wc xs≠[]:=fun e=>by have:=congrArg List.length e; rw [Cf,List.length_nil] at this; omega
  obtain ⟨ad',e,es,hc,hl⟩:=hr hne
  have e2:some ad=some ad':=hA.1.trans e
  cases e2
  have hg:=(hl.get (sz:=4) (fun d hd=>by rw [Rh] at hd; obtain ⟨k,_,rfl⟩:=List.mem_map.1 hd; exact Dd k) 0 (by rw [Cf]; omega)).2
  exact (hc 0 U).2
end
def XM (x:Tree):Prop:=∀ (S:Nat→Prop) (w0:World) (cs:List Value) (ls:List Str) (fs:List Int) (A1:Option Addr) (c1:Nat) (sl:List (Nat × Obj)) (A2:Option Addr) (c2:Nat) (sf:List (Nat × Obj)),Two w0 A1 c1 sl ls A2 c2 sf fs→Rep S w0 (Vc x) cs→(∀ q∈sl++sf,¬S q.1)→Fe nodeB x=true→Oc x≤1000000000→Lf x≤16777216→ls.length=fs.length→ls.length+(Qe x).length≤512 →
  Calls prog 50 #[.agg #[.slice A1 ls.length c1,.slice A2 fs.length c2],.agg cs.toArray] w0 (De fun v w'=>∃ (A1':Option Addr) (c1':Nat) (sl':List (Nat × Obj)) (A2':Option Addr) (c2':Nat) (sf':List (Nat × Obj)),v=.agg #[.slice A1' (ls++Qe x).length c1',.slice A2' (fs++Ag x ls.length).length c2']∧Two w' A1' c1' sl' (ls++Qe x) A2' c2' sf' (fs++Ag x ls.length)∧(∀ q∈sl'++sf',w0.heap.size≤q.1∨q.1∈((sl++sf).map (·.1)))∧Same ((sl++sf).map (·.1)) w0 w')
theorem UU (k:Int) (t:Str) (ks:List Str) (xs:List Tree) (ih:∀ x∈xs,XM x) (A D:Option Addr) (c e:Nat) (S:Nat→Prop) (w0:World) (ls:List Str) (fs:List Int) (A1:Option Addr) (c1:Nat) (sl:List (Nat × Obj)) (A2:Option Addr) (c2:Nat) (sf:List (Nat × Obj)) (hT:Two w0 A1 c1 sl ls A2 c2 sf fs) (hR:Rep S w0 (Vc (.node k t ks xs)) [.int .i64 k,.string (bs t),.slice A ks.length c,.slice D xs.length e]) (hS:∀ b,S b→b < w0.heap.size∧b∉((sl++sf).map (·.1))) (hn:Fe nodeB (.node k t ks xs)=true) (hsz:Oc (.node k t ks xs)≤1000000000) (hm:Lf (.node k t ks xs)≤16777216) (hlf:ls.length=fs.length) (hlen:ls.length+(Qe (.node k t ks xs)).length≤512) (hk:k=5):Calls prog 50 #[.agg #[.slice A1 ls.length c1,.slice A2 fs.length c2],.agg #[.int .i64 k,.string (bs t),.slice A ks.length c,.slice D xs.length e]] w0 (De fun v w'=>∃ (A1':Option Addr) (c1':Nat) (sl':List (Nat × Obj)) (A2':Option Addr) (c2':Nat) (sf':List (Nat × Obj)),v=.agg #[.slice A1' (ls++Qe (.node k t ks xs)).length c1',.slice A2' (fs++Ag (.node k t ks xs) ls.length).length c2']∧Two w' A1' c1' sl' (ls++Qe (.node k t ks xs)) A2' c2' sf' (fs++Ag (.node k t ks xs) ls.length)∧(∀ q∈sl'++sf',w0.heap.size≤q.1∨q.1∈((sl++sf).map (·.1)))∧Same ((sl++sf).map (·.1)) w0 w'):=by
 obtain ⟨hn1,hns⟩:=Kg hn
 have hsz1:Fd xs+1≤1000000000:=by rw [Oc] at hsz; omega
 have hm1:t.length≤16777216∧Nk xs≤16777216∧Yl ks≤16777216:=by rw [Lf] at hm; omega
 obtain ⟨A_,c_,D_,e_,hcs,-,-,hK,hX⟩:=hR.tree_inv
 obtain ⟨rfl,rfl,rfl,rfl⟩:A=A_∧c=c_∧D=D_∧e=e_:=by simp only [List.cons.injEq,Value.slice.injEq,and_true,true_and] at hcs; exact ⟨hcs.1.1,hcs.1.2,hcs.2.1,hcs.2.2⟩
 have hXl:=hX.slice_len
 have hKl:=hK.slice_len
 clear hcs
 have hlp:=D1 (.node k t ks xs)
 obtain ⟨hL,hN,hh⟩:=hT
 have hlT:ls.length+(Wg xs).length+1≤512:=by rw [Qe,if_pos hk,List.length_append,List.length_singleton] at hlen; omega
 refine Ka func50 O ntmps50 Kb (Ee _ _) ?_
 have hF:=Two.start ⟨hL,hN,hh⟩
 refine Ia ?_
 refine Bh hF O ?_
 clear hF; rintro b1 w hb1 hF -
 refine Bh hF O ?_
 clear hF; rintro b2 w hb2 hF -
 refine Fg (cs:=#[.slice none 0 0,.slice none 0 0]) hF zeroValue56 O ?_
 clear hF; rintro b3 w hb3 hF -
 refine Bc (Ca (Ec Xc O) (Tc (Mf isAgg25 O hF.F 2 O O) (Ca (Df underlying25 O) (Ca (Wb O) (Bc (Ca (Rd O) (Xa ?_)))))))
 refine Ga (Ha (Ia (Ca (Ec Ke O) (Tc (Hl isAgg3 O hF.F 1 O O) (Ja (v:=.bool false) (Zc (Ig O O) U) (Ea (Qj O (Ha (Ha ?_)))))))))
 refine Fa (Ca (Ec Ke O) (Tc (Hl isAgg3 O hF.F 1 O O) (Ja (v:=.bool false) (Zc (Ir O O) U) (Ca (Jc O) (Da (Da (Da (Ca (Gc O O) (Ea (Qj O ?_))))))))))
 refine Ha (Ia (Ca (Wb O) (Ea (Ta ?_))))
 refine Lc (fun μ σ w=>∃ (j:Nat),∃ (l1:List Str),∃ (f1:List Int),∃ (P1:Option Addr),∃ (q1:Nat),∃ (sl1:List (Nat × Obj)),∃ (P2:Option Addr),∃ (q2:Nat),∃ (sf1:List (Nat × Obj)),μ=xs.length - j∧(j≤xs.length)∧(l1=ls++Wg (xs.take j))∧(f1=fs++Zj (xs.take j) ls.length)∧(l1.length=f1.length)∧(SlB 9 1 P1 l1.length q1 (Wu l1) sl1)∧(SlB 3 1 P2 f1.length q2 (Qr f1) sf1)∧AllEq σ [(2,.pointer (some ⟨b1,0,none⟩)),(3,.pointer (some ⟨b2,0,none⟩)),(4,.pointer (some ⟨b3,0,none⟩)),(5,.int .i64 ((ls.length:Nat))),(6,.string (bs [91])),(7,.int .i64 ((j:Int)))]∧FR w0 ((sl++sf).map (·.1)) ([(b3,.cells #[.slice none 0 0,.slice none 0 0] 56),(b2,.cells #[.int .i64 k,.string (bs t),.slice A ks.length c,.slice D xs.length e] 27),(b1,.cells #[.slice P1 l1.length q1,.slice P2 f1.length q2] 56)]++(sl1++(sf1++[]))) w) _ ⟨0,ls,fs,A1,c1,sl,A2,c2,sf,O,(Nat.zero_le _),(by simp [Wg,Tf]),(by simp [Zj,Jj]),(hlf),(hL),(hN),Iu,hF⟩ ?_
 clear hF; rintro μ σ w ⟨j,l1,f1,P1,q1,sl1,P2,q2,sf1,rfl,hj,hl1,hf1,hlf1,hL1,hN1,hs,hF⟩
 refine Cg.slots hs ?_
 clear hs; intro σ
 have hl1n:=congrArg List.length hl1
 have hle:=Lq xs j
 simp only [List.length_append] at hl1n
 refine Ha (Ia (Ca (Va O) (Ca (Ec Pc O) (Tc (Mf isAgg22 O hF.F 1 O O) (Ca (Df underlying22 O) (Ca (Yg O O) (Ea ?_)))))))
 refine Yb O O (fun hc2=>?_) (fun hc2=>?_)
 refine Qa (Ga (Ha (Ta (Ia (Ca (Ec Xc O) (Tc (Mf isAgg25 O hF.F 2 O O) (Ca (Df underlying25 O) (Ca (Wb O) (Ea (Ha ?_))))))))))
 have hXw:=hF.repS hX hS
 obtain ⟨adx,cx,hAx,hlx,hkx,hrx⟩:=hXw.tree_elem (i:=j) U
 have hox:=hrx.one_
 have hblk:S adx.block:=(show Rep S w0 (.slice (Wc xs)) [.slice (some adx) xs.length e] by rw [←hAx]; exact hX).tree_block U
 have hst:=congrArg List.length (Cp xs j U)
 have hl1n:=congrArg List.length hl1
 have hle:=Lq xs (j+1)
 simp only [List.length_append,List.length_cons,List.length_nil] at hst hl1n
 clear hXw
 refine Uc [7] (.free 0 (.free 1 (.free 2 (.free 3 (.free 4 (.free 5 (.act 6 (.act 7 .nil)))))))) hF ?_
 clear hF; intro w hF hE
 replace hkx:=fun q h=>hE.cell (hkx q h)
 replace hrx:=hrx.ext hE
 clear hE
 refine ⟨fun wq=>FR w0 ((sl++sf).map (·.1)) [(b3,.cells #[.slice none 0 0,.slice none 0 0] 56),(b2,.cells #[.int .i64 k,.string (bs t),.slice A ks.length c,.slice D xs.length e] 27),(b1,.cells #[.slice P1 l1.length q1,.slice P2 f1.length q2] 56)] wq∧∀ q (h:q < cx.length),wq.cell? ((adx.add (j * 4)).add q)=some cx[q],⟨hF.sub (.cons_cons _ (.cons_cons _ (.cons_cons _ (List.nil_sublist _)))),hkx⟩,?_⟩
 refine Uk O (Wj isAgg56 sizeOf56 O C1 2 O O) (Db O (Ec Pc O) (Uk O (Mf isAgg22 O C1 1 O O) (Db O (Va O) (Oa O (v:=.pointer (some (adx.add (j * 4)))) (fun w hC=>Pa (i:=((j:Nat):Int)) Mg O hAx O U U) (Oa O (v:=.agg (List.toArray cx)) (fun w hC=>Fc (l:=cx) isAgg27 sizeOf27 O hlx hC.2) ?_)))))
 refine Ye rfl (ih xs[j] (List.getElem_mem U) S _ cx l1 f1 P1 q1 sl1 P2 q2 sf1 (hF.two hL1 hN1) hrx (fun q hq h=>by have h1:=hS q.1 h; rcases hF.two_new q hq with h2 | h2; (omega); (exact h1.2 h2)) (hns _ (List.getElem_mem U)) (by have:=Rf (List.getElem_mem (l:=xs) (n:=j) U); omega) (by have:=Ch (List.getElem_mem (l:=xs) (n:=j) U); omega) hlf1 U) (Vb ZL rfl rfl rfl) ?_
 rintro _ w ⟨A3,c3,sl3,A4,c4,sf3,rfl,hT3,hn3,hE⟩
 have hoff:adx.block∉(sl1++sf1).map (·.1):=fun hm=>by obtain ⟨q,hq,e⟩:=List.mem_map.1 hm; have h1:=hS adx.block hblk; rcases hF.two_new q hq with h2 | h2; (omega); (exact h1.2 (e ▸ h2))
 replace hkx:=fun q h=>C7 hE (by rw [Ju,Ju]; exact hoff) (hkx q h)
 replace hF:=hF.swap hE hT3 hn3
 obtain ⟨hL3,hN3,-⟩:=hT3
 clear hE hn3 hrx
 refine ⟨⟨hF.sub (.cons_cons _ (.cons_cons _ (.cons_cons _ (List.nil_sublist _)))),hkx⟩,?_⟩
 refine Ad O 2 (l:=[.slice (A3) ((l1++Qe xs[j]).length) (c3),.slice (A4) ((f1++Ag xs[j] l1.length).length) (c4)]) (cs':=#[.slice (A3) ((l1++Qe xs[j]).length) (c3),.slice (A4) ((f1++Ag xs[j] l1.length).length) (c4)]) hF sizeOf56 O (v:=.agg #[.slice (A3) ((l1++Qe xs[j]).length) (c3),.slice (A4) ((f1++Ag xs[j] l1.length).length) (c4)]) O O Ed O Kb O ?_
 clear hF; rintro w hF -
 replace hF:FR w0 ((sl++sf).map (·.1)) ([(b3,.cells #[.slice none 0 0,.slice none 0 0] 56),(b2,.cells #[.int .i64 k,.string (bs t),.slice A ks.length c,.slice D xs.length e] 27),(b1,.cells #[.slice (A3) ((l1++Qe xs[j]).length) (c3),.slice (A4) ((f1++Ag xs[j] l1.length).length) (c4)] 56)]++(sl3++(sf3++[]))) w:=hF
 refine Mc (Ga (Ia (Ca (Ec Ke O) (Tc (Hl isAgg3 O hF.F 1 O O) (Ja (v:=.bool false) (Zc (Ig O O) U) (Ea (Ie O (Qa (Eb (Ga (Fa ?_)))))))))))
 refine Ca (Va O) (Ca (If (((j+1:Nat):Int)) O O) (Ca (Wb O) (Xa ?_)))
 refine Ib ⟨_,?_,j+1,l1++Qe xs[j],f1++Ag xs[j] l1.length,A3,c3,sl3,A4,c4,sf3,O,U,(by rw [hl1,Cp xs j U]; simp only [List.append_assoc]),(by rw [hf1,Qv xs j U,show ls.length+(Wg (xs.take j)).length=l1.length by rw [hl1,List.length_append]]; simp only [List.append_assoc]),(by simp only [List.length_append,Wf,List.length_cons,List.length_nil]; omega),(hL3),(hN3),Iu,hF⟩
 omega
 refine Dc (Cc O ?_)
 refine Ga (Ia (Ca (Ec Xc O) (Tc (Mf isAgg25 O hF.F 2 O O) (Ca (Qc O) ?_))))
 refine Pe 1 hF (Za (cs:=#[.string (bs [91])]) underlying25 sizeOf9 zeroValue9 Ua Ua Qb) ?_
 clear hF; rintro b4 w hb4 hF -
 refine Kf [(b4,.cells #[.string (bs [91])] 9),(b3,.cells #[.slice none 0 0,.slice none 0 0] 56),(b2,.cells #[.int .i64 k,.string (bs t),.slice A ks.length c,.slice D xs.length e] 27),(b1,.cells #[.slice P1 l1.length q1,.slice P2 f1.length q2] 56)] (sf1++[]) (news:=[.string (bs [91])]) (len':=(l1++[[91]]).length) (ys:=Wu (l1++[[91]])) Zm hF hL1 O O (O) (fun _=>⟨_,O,Xb (hF.cellsAll 0 O)⟩) (by simp [Value.oneCell']) (by simp only [maxLen,List.length_append,Wf]; omega) (by simp only [List.length_append,List.length_cons,List.length_nil] <;> omega) (by simp [Wu]) (by (try simp only [List.length_append,Wf]); omega) ?_
 clear hF; intro A0 c0 L_0 w hS0_L hF hE hnew
 clear hE hnew
 refine Ca (Ec Xc O) ?_
 refine Me 3 (l:=[.slice (A0) ((l1++[[91]]).length) (c0)]) (cs':=#[.slice (A0) ((l1++[[91]]).length) (c0),.slice P2 f1.length q2]) hF sizeOf25 O (v:=.slice (A0) ((l1++[[91]]).length) (c0)) O O Ed O Kb O ?_
 clear hF; rintro w hF -
 replace hF:FR w0 ((sl++sf).map (·.1)) ([(b4,.cells #[.string (bs [91])] 9),(b3,.cells #[.slice none 0 0,.slice none 0 0] 56),(b2,.cells #[.int .i64 k,.string (bs t),.slice A ks.length c,.slice D xs.length e] 27),(b1,.cells #[.slice (A0) ((l1++[[91]]).length) (c0),.slice P2 f1.length q2] 56)]++(L_0++(sf1++[]))) w:=hF
 refine Bc (Ca (Ec Qd O) (Tc (Mf isAgg42 O hF.F 3 O O) (Ca (Va O) ?_)))
 refine Pe 1 hF (Za (cs:=#[.int .i64 ((ls.length:Nat))]) underlying42 sizeOf3 zeroValue3 Ua Ua Qb) ?_
 clear hF; rintro b5 w hb5 hF -
 refine Kf ([(b5,.cells #[.int .i64 ((ls.length:Nat))] 3),(b4,.cells #[.string (bs [91])] 9),(b3,.cells #[.slice none 0 0,.slice none 0 0] 56),(b2,.cells #[.int .i64 k,.string (bs t),.slice A ks.length c,.slice D xs.length e] 27),(b1,.cells #[.slice (A0) ((l1++[[91]]).length) (c0),.slice P2 f1.length q2] 56)]++L_0) [] (news:=[.int .i64 ((ls.length:Nat))]) (len':=(f1++[(ls.length:Int)]).length) (ys:=Qr (f1++[(ls.length:Int)])) Wh hF hN1 O O (O) (fun _=>⟨_,O,Xb (hF.cellsAll 0 O)⟩) (by simp [Value.oneCell']) (by simp only [maxLen,List.length_append,Wf]; omega) (by simp only [List.length_append,List.length_cons,List.length_nil] <;> omega) (by simp [Qr]) (by (try simp only [List.length_append,Wf]); omega) ?_
 clear hF; intro A1 c1 N_1 w hS1_N hF hE hnew
 clear hE hnew
 refine Ca (Ec Qd O) ?_
 refine Me 4 (l:=[.slice (A1) ((f1++[(ls.length:Int)]).length) (c1)]) (cs':=#[.slice (A0) ((l1++[[91]]).length) (c0),.slice (A1) ((f1++[(ls.length:Int)]).length) (c1)]) hF sizeOf42 O (v:=.slice (A1) ((f1++[(ls.length:Int)]).length) (c1)) O O Ed O Kb O ?_
 clear hF; rintro w hF -
 replace hF:FR w0 ((sl++sf).map (·.1)) ([(b5,.cells #[.int .i64 ((ls.length:Nat))] 3),(b4,.cells #[.string (bs [91])] 9),(b3,.cells #[.slice none 0 0,.slice none 0 0] 56),(b2,.cells #[.int .i64 k,.string (bs t),.slice A ks.length c,.slice D xs.length e] 27),(b1,.cells #[.slice (A0) ((l1++[[91]]).length) (c0),.slice (A1) ((f1++[(ls.length:Int)]).length) (c1)] 56)]++(L_0++(N_1++[]))) w:=hF
 refine Bc (Tc (Wj isAgg56 sizeOf56 O hF.F 4 O O) ?_)
 refine Me 2 (l:=[.slice (A0) ((l1++[[91]]).length) (c0),.slice (A1) ((f1++[(ls.length:Int)]).length) (c1)]) (cs':=#[.slice (A0) ((l1++[[91]]).length) (c0),.slice (A1) ((f1++[(ls.length:Int)]).length) (c1)]) hF sizeOf56 O (v:=.agg #[.slice (A0) ((l1++[[91]]).length) (c0),.slice (A1) ((f1++[(ls.length:Int)]).length) (c1)]) O O Ed O Kb O ?_
 clear hF; rintro w hF -
 replace hF:FR w0 ((sl++sf).map (·.1)) ([(b5,.cells #[.int .i64 ((ls.length:Nat))] 3),(b4,.cells #[.string (bs [91])] 9),(b3,.cells #[.slice (A0) ((l1++[[91]]).length) (c0),.slice (A1) ((f1++[(ls.length:Int)]).length) (c1)] 56),(b2,.cells #[.int .i64 k,.string (bs t),.slice A ks.length c,.slice D xs.length e] 27),(b1,.cells #[.slice (A0) ((l1++[[91]]).length) (c0),.slice (A1) ((f1++[(ls.length:Int)]).length) (c1)] 56)]++(L_0++(N_1++[]))) w:=hF
 refine Ea ?_
 refine Ub (Rb (Sa (Bn O (l:=[.slice (A0) ((l1++[[91]]).length) (c0),.slice (A1) ((f1++[(ls.length:Int)]).length) (c1)]) O isAgg56 sizeOf56 O (hF.cellsAll 2 O)) ?_))
 have e1:ls++Qe (.node k t ks xs)=l1++[[91]]:=by rw [hl1,List.take_of_length_le U,Qe,if_pos hk]; simp only [List.append_assoc]
 have e2:fs++Ag (.node k t ks xs) ls.length=f1++[(ls.length:Int)]:=by rw [hf1,List.take_of_length_le U,Ag,if_pos hk]; simp only [List.append_assoc]
 rw [e1,e2]
 exact ⟨A0,c0,L_0,A1,c1,N_1,O,hF.two hS0_L hS1_N,hF.two_new,hF.same⟩
theorem VV (k:Int) (t:Str) (ks:List Str) (xs:List Tree) (ih:∀ x∈xs,XM x) (A D:Option Addr) (c e:Nat) (S:Nat→Prop) (w0:World) (ls:List Str) (fs:List Int) (A1:Option Addr) (c1:Nat) (sl:List (Nat × Obj)) (A2:Option Addr) (c2:Nat) (sf:List (Nat × Obj)) (hT:Two w0 A1 c1 sl ls A2 c2 sf fs) (hR:Rep S w0 (Vc (.node k t ks xs)) [.int .i64 k,.string (bs t),.slice A ks.length c,.slice D xs.length e]) (hS:∀ b,S b→b < w0.heap.size∧b∉((sl++sf).map (·.1))) (hn:Fe nodeB (.node k t ks xs)=true) (hsz:Oc (.node k t ks xs)≤1000000000) (hm:Lf (.node k t ks xs)≤16777216) (hlf:ls.length=fs.length) (hlen:ls.length+(Qe (.node k t ks xs)).length≤512) (hk:k=6):Calls prog 50 #[.agg #[.slice A1 ls.length c1,.slice A2 fs.length c2],.agg #[.int .i64 k,.string (bs t),.slice A ks.length c,.slice D xs.length e]] w0 (De fun v w'=>∃ (A1':Option Addr) (c1':Nat) (sl':List (Nat × Obj)) (A2':Option Addr) (c2':Nat) (sf':List (Nat × Obj)),v=.agg #[.slice A1' (ls++Qe (.node k t ks xs)).length c1',.slice A2' (fs++Ag (.node k t ks xs) ls.length).length c2']∧Two w' A1' c1' sl' (ls++Qe (.node k t ks xs)) A2' c2' sf' (fs++Ag (.node k t ks xs) ls.length)∧(∀ q∈sl'++sf',w0.heap.size≤q.1∨q.1∈((sl++sf).map (·.1)))∧Same ((sl++sf).map (·.1)) w0 w'):=by
 obtain ⟨hn1,hns⟩:=Kg hn
 have hsz1:Fd xs+1≤1000000000:=by rw [Oc] at hsz; omega
 have hm1:t.length≤16777216∧Nk xs≤16777216∧Yl ks≤16777216:=by rw [Lf] at hm; omega
 obtain ⟨A_,c_,D_,e_,hcs,-,-,hK,hX⟩:=hR.tree_inv
 obtain ⟨rfl,rfl,rfl,rfl⟩:A=A_∧c=c_∧D=D_∧e=e_:=by simp only [List.cons.injEq,Value.slice.injEq,and_true,true_and] at hcs; exact ⟨hcs.1.1,hcs.1.2,hcs.2.1,hcs.2.2⟩
 have hXl:=hX.slice_len
 have hKl:=hK.slice_len
 clear hcs
 have hlp:=D1 (.node k t ks xs)
 obtain ⟨hL,hN,hh⟩:=hT
 have hlT:ls.length+(Tf xs ks).length+1≤512:=by rw [Qe,if_neg U,if_pos hk,List.length_append,List.length_singleton] at hlen; omega
 have hkx6:ks.length=xs.length:=(Us (hk ▸ hn1)).2
 refine Ka func50 O ntmps50 Kb (Ee _ _) ?_
 have hF:=Two.start ⟨hL,hN,hh⟩
 refine Ia ?_
 refine Bh hF O ?_
 clear hF; rintro b1 w hb1 hF -
 refine Bh hF O ?_
 clear hF; rintro b2 w hb2 hF -
 refine Fg (cs:=#[.slice none 0 0,.slice none 0 0]) hF zeroValue56 O ?_
 clear hF; rintro b3 w hb3 hF -
 refine Bc (Ca (Ec Xc O) (Tc (Mf isAgg25 O hF.F 2 O O) (Ca (Df underlying25 O) (Ca (Wb O) (Bc (Ca (Rd O) (Xa ?_)))))))
 refine Ga (Ha (Ia (Ca (Ec Ke O) (Tc (Hl isAgg3 O hF.F 1 O O) (Ja (v:=.bool true) (Ce (Ig O O) U) (Ea (Ae O (Fa (Ca (Rd O) (Ea ?_))))))))))
 refine Ha (Ia (Ca (Ec Ke O) (Tc (Hl isAgg3 O hF.F 1 O O) (Ja (v:=.bool true) (Ce (Ir O O) U) (Ca (Jc O) (Ca (Ec Ke O) (Tc (Hl isAgg3 O hF.F 1 O O) (Ja (v:=.bool false) (Zc (Ir O O) U) (Ca (Ic O O) (Ea (Ie O ?_)))))))))))
 refine Qa (Ga (Ha (Ia (Ca (Wb O) (Ea (Ta ?_))))))
 refine Lc (fun μ σ w=>∃ (j:Nat),∃ (l1:List Str),∃ (f1:List Int),∃ (P1:Option Addr),∃ (q1:Nat),∃ (sl1:List (Nat × Obj)),∃ (P2:Option Addr),∃ (q2:Nat),∃ (sf1:List (Nat × Obj)),μ=xs.length - j∧(j≤xs.length)∧(l1=ls++Tf (xs.take j) ks)∧(f1=fs++Jj (xs.take j) ks ls.length)∧(l1.length=f1.length)∧(SlB 9 1 P1 l1.length q1 (Wu l1) sl1)∧(SlB 3 1 P2 f1.length q2 (Qr f1) sf1)∧AllEq σ [(2,.pointer (some ⟨b1,0,none⟩)),(3,.pointer (some ⟨b2,0,none⟩)),(4,.pointer (some ⟨b3,0,none⟩)),(5,.int .i64 ((ls.length:Nat))),(6,.string (bs [123])),(7,.int .i64 ((j:Int)))]∧FR w0 ((sl++sf).map (·.1)) ([(b3,.cells #[.slice none 0 0,.slice none 0 0] 56),(b2,.cells #[.int .i64 k,.string (bs t),.slice A ks.length c,.slice D xs.length e] 27),(b1,.cells #[.slice P1 l1.length q1,.slice P2 f1.length q2] 56)]++(sl1++(sf1++[]))) w) _ ⟨0,ls,fs,A1,c1,sl,A2,c2,sf,O,(Nat.zero_le _),(by simp [Wg,Tf]),(by simp [Zj,Jj]),(hlf),(hL),(hN),Iu,hF⟩ ?_
 clear hF; rintro μ σ w ⟨j,l1,f1,P1,q1,sl1,P2,q2,sf1,rfl,hj,hl1,hf1,hlf1,hL1,hN1,hs,hF⟩
 refine Cg.slots hs ?_
 clear hs; intro σ
 have hl1n:=congrArg List.length hl1
 have hle:=Oq xs ks j
 simp only [List.length_append] at hl1n
 refine Ha (Ia (Ca (Va O) (Ca (Ec Pc O) (Tc (Mf isAgg22 O hF.F 1 O O) (Ca (Df underlying22 O) (Ca (Yg O O) (Ea ?_)))))))
 refine Yb O O (fun hc2=>?_) (fun hc2=>?_)
 refine Qa (Ga (Ha (Ta (Ia (Ca (Ec Xc O) (Tc (Mf isAgg25 O hF.F 2 O O) (Ca (Df underlying25 O) (Ca (Wb O) (Ea (Ha ?_))))))))))
 have hXw:=hF.repS hX hS
 obtain ⟨adx,cx,hAx,hlx,hkx,hrx⟩:=hXw.tree_elem (i:=j) U
 have hox:=hrx.one_
 have hblk:S adx.block:=(show Rep S w0 (.slice (Wc xs)) [.slice (some adx) xs.length e] by rw [←hAx]; exact hX).tree_block U
 have hst:=congrArg List.length (Lp xs ks j U U)
 have hl1n:=congrArg List.length hl1
 have hle:=Oq xs ks (j+1)
 simp only [List.length_append,List.length_cons,List.length_nil] at hst hl1n
 clear hXw
 refine Uc [7] (.free 0 (.free 1 (.free 2 (.free 3 (.free 4 (.free 5 (.act 6 (.act 7 .nil)))))))) hF ?_
 clear hF; intro w hF hE
 replace hkx:=fun q h=>hE.cell (hkx q h)
 replace hrx:=hrx.ext hE
 clear hE
 refine ⟨fun wq=>FR w0 ((sl++sf).map (·.1)) [(b3,.cells #[.slice none 0 0,.slice none 0 0] 56),(b2,.cells #[.int .i64 k,.string (bs t),.slice A ks.length c,.slice D xs.length e] 27),(b1,.cells #[.slice P1 l1.length q1,.slice P2 f1.length q2] 56)] wq∧∀ q (h:q < cx.length),wq.cell? ((adx.add (j * 4)).add q)=some cx[q],⟨hF.sub (.cons_cons _ (.cons_cons _ (.cons_cons _ (List.nil_sublist _)))),hkx⟩,?_⟩
 refine Uk O (Wj isAgg56 sizeOf56 O C1 2 O O) (Db O (Ec Pc O) (Uk O (Mf isAgg22 O C1 1 O O) (Db O (Va O) (Oa O (v:=.pointer (some (adx.add (j * 4)))) (fun w hC=>Pa (i:=((j:Nat):Int)) Mg O hAx O U U) (Oa O (v:=.agg (List.toArray cx)) (fun w hC=>Fc (l:=cx) isAgg27 sizeOf27 O hlx hC.2) ?_)))))
 refine Ye rfl (ih xs[j] (List.getElem_mem U) S _ cx l1 f1 P1 q1 sl1 P2 q2 sf1 (hF.two hL1 hN1) hrx (fun q hq h=>by have h1:=hS q.1 h; rcases hF.two_new q hq with h2 | h2; (omega); (exact h1.2 h2)) (hns _ (List.getElem_mem U)) (by have:=Rf (List.getElem_mem (l:=xs) (n:=j) U); omega) (by have:=Ch (List.getElem_mem (l:=xs) (n:=j) U); omega) hlf1 U) (Vb ZL rfl rfl rfl) ?_
 rintro _ w ⟨A3,c3,sl3,A4,c4,sf3,rfl,hT3,hn3,hE⟩
 have hoff:adx.block∉(sl1++sf1).map (·.1):=fun hm=>by obtain ⟨q,hq,e⟩:=List.mem_map.1 hm; have h1:=hS adx.block hblk; rcases hF.two_new q hq with h2 | h2; (omega); (exact h1.2 (e ▸ h2))
 replace hkx:=fun q h=>C7 hE (by rw [Ju,Ju]; exact hoff) (hkx q h)
 replace hF:=hF.swap hE hT3 hn3
 obtain ⟨hL3,hN3,-⟩:=hT3
 clear hE hn3 hrx
 refine ⟨⟨hF.sub (.cons_cons _ (.cons_cons _ (.cons_cons _ (List.nil_sublist _)))),hkx⟩,?_⟩
 refine Ad O 2 (l:=[.slice (A3) ((l1++Qe xs[j]).length) (c3),.slice (A4) ((f1++Ag xs[j] l1.length).length) (c4)]) (cs':=#[.slice (A3) ((l1++Qe xs[j]).length) (c3),.slice (A4) ((f1++Ag xs[j] l1.length).length) (c4)]) hF sizeOf56 O (v:=.agg #[.slice (A3) ((l1++Qe xs[j]).length) (c3),.slice (A4) ((f1++Ag xs[j] l1.length).length) (c4)]) O O Ed O Kb O ?_
 clear hF; rintro w hF -
 replace hF:FR w0 ((sl++sf).map (·.1)) ([(b3,.cells #[.slice none 0 0,.slice none 0 0] 56),(b2,.cells #[.int .i64 k,.string (bs t),.slice A ks.length c,.slice D xs.length e] 27),(b1,.cells #[.slice (A3) ((l1++Qe xs[j]).length) (c3),.slice (A4) ((f1++Ag xs[j] l1.length).length) (c4)] 56)]++(sl3++(sf3++[]))) w:=hF
 refine Mc (Ga (Ia (Ca (Ec Ke O) (Tc (Hl isAgg3 O hF.F 1 O O) (Ja (v:=.bool true) (Ce (Ig O O) U) (Ea (Ae O (Ia (Ca (Ec Af O) (Tc (Mf isAgg25 O hF.F 1 O O) ?_))))))))))
 refine Ca (Va O) ?_
 have hKw:=hF.repS hK hS
 obtain ⟨ad0,hA0,hk0,hx0⟩:=hKw.str_elem (i:=j) U
 refine Ja (v:=.pointer (some (ad0.add (j * 1)))) (Pa (i:=(j:Int)) Gk O hA0 O U U) (Ja (v:=.string (bs (ks[j]))) (Ya isAgg9 O hk0) ?_)
 refine Jb hF (UX ks[j] _) (Cb IY O O) ?_
 clear hF; intro w hF
 refine Jb hF (OH (.node 4 ks[j] [] []) (by simp [Oc,Fd]) (by rw [Jr]; exact (by have:=Uh (List.getElem_mem (l:=ks) (n:=j) U); omega)) (fun _=>True) _ [.int .i64 4,.string (bs ks[j]),.slice none 0 0,.slice none 0 0] (SU (by have:=Uh (List.getElem_mem (l:=ks) (n:=j) U); omega))) (Cb OU O O) ?_
 clear hF; intro w hF
 refine Ca (Ul O) (Ca (D7 O O) (Ca (Fm O O) (Ca (Rd O) (Ca (Wb O) (Bc (Ca (Ec Xc O) (Tc (Mf isAgg25 O hF.F 2 O O) (Ca (Qc O) ?_))))))))
 refine Ja (v:=.string (bs (Po ks[j]))) (by rw [←KA _]; exact Gh O O (by have:=Fu (.node 4 ks[j] [] []) (by rw [Jr]; exact (by have:=Uh (List.getElem_mem (l:=ks) (n:=j) U); omega)); simp only [List.length_cons,List.length_nil]; omega)) ?_
 refine Pe 1 hF (Za (cs:=#[.string (bs (Po ks[j]))]) underlying25 sizeOf9 zeroValue9 Ua Ua Qb) ?_
 clear hF; rintro b4 w hb4 hF -
 refine Kf [(b4,.cells #[.string (bs (Po ks[j]))] 9),(b3,.cells #[.slice none 0 0,.slice none 0 0] 56),(b2,.cells #[.int .i64 k,.string (bs t),.slice A ks.length c,.slice D xs.length e] 27),(b1,.cells #[.slice (A3) ((l1++Qe xs[j]).length) (c3),.slice (A4) ((f1++Ag xs[j] l1.length).length) (c4)] 56)] (sf3++[]) (news:=[.string (bs (Po ks[j]))]) (len':=(l1++Qe xs[j]++[Po ks[j]]).length) (ys:=Wu (l1++Qe xs[j]++[Po ks[j]])) Zm hF hL3 O O (O) (fun _=>⟨_,O,Xb (hF.cellsAll 0 O)⟩) (by simp [Value.oneCell']) (by simp only [maxLen,List.length_append,Wf]; omega) (by simp only [List.length_append,List.length_cons,List.length_nil] <;> omega) (by simp [Wu]) (by (try simp only [List.length_append,Wf]); omega) ?_
 clear hF; intro A1 c1 L_1 w hS1_L hF hE hnew
 clear hE hnew
 refine Ca (Ec Xc O) ?_
 refine Me 3 (l:=[.slice (A1) ((l1++Qe xs[j]++[Po ks[j]]).length) (c1)]) (cs':=#[.slice (A1) ((l1++Qe xs[j]++[Po ks[j]]).length) (c1),.slice (A4) ((f1++Ag xs[j] l1.length).length) (c4)]) hF sizeOf25 O (v:=.slice (A1) ((l1++Qe xs[j]++[Po ks[j]]).length) (c1)) O O Ed O Kb O ?_
 clear hF; rintro w hF -
 replace hF:FR w0 ((sl++sf).map (·.1)) ([(b4,.cells #[.string (bs (Po ks[j]))] 9),(b3,.cells #[.slice none 0 0,.slice none 0 0] 56),(b2,.cells #[.int .i64 k,.string (bs t),.slice A ks.length c,.slice D xs.length e] 27),(b1,.cells #[.slice (A1) ((l1++Qe xs[j]++[Po ks[j]]).length) (c1),.slice (A4) ((f1++Ag xs[j] l1.length).length) (c4)] 56)]++(L_1++(sf3++[]))) w:=hF
 refine Ea (Fa (Ca (Ec Qd O) (Tc (Mf isAgg42 O hF.F 3 O O) (Ca (Va O) ?_))))
 refine Pe 1 hF (Za (cs:=#[.int .i64 ((l1.length:Nat))]) underlying42 sizeOf3 zeroValue3 Ua Ua Qb) ?_
 clear hF; rintro b5 w hb5 hF -
 refine Kf ([(b5,.cells #[.int .i64 ((l1.length:Nat))] 3),(b4,.cells #[.string (bs (Po ks[j]))] 9),(b3,.cells #[.slice none 0 0,.slice none 0 0] 56),(b2,.cells #[.int .i64 k,.string (bs t),.slice A ks.length c,.slice D xs.length e] 27),(b1,.cells #[.slice (A1) ((l1++Qe xs[j]++[Po ks[j]]).length) (c1),.slice (A4) ((f1++Ag xs[j] l1.length).length) (c4)] 56)]++L_1) [] (news:=[.int .i64 ((l1.length:Nat))]) (len':=(f1++Ag xs[j] l1.length++[(l1.length:Int)]).length) (ys:=Qr (f1++Ag xs[j] l1.length++[(l1.length:Int)])) Wh hF hN3 O O (O) (fun _=>⟨_,O,Xb (hF.cellsAll 0 O)⟩) (by simp [Value.oneCell']) (by simp only [maxLen,List.length_append,Wf]; omega) (by simp only [List.length_append,List.length_cons,List.length_nil] <;> omega) (by simp [Qr]) (by (try simp only [List.length_append,Wf]); omega) ?_
 clear hF; intro A2 c2 N_2 w hS2_N hF hE hnew
 clear hE hnew
 refine Ca (Ec Qd O) ?_
 refine Me 4 (l:=[.slice (A2) ((f1++Ag xs[j] l1.length++[(l1.length:Int)]).length) (c2)]) (cs':=#[.slice (A1) ((l1++Qe xs[j]++[Po ks[j]]).length) (c1),.slice (A2) ((f1++Ag xs[j] l1.length++[(l1.length:Int)]).length) (c2)]) hF sizeOf42 O (v:=.slice (A2) ((f1++Ag xs[j] l1.length++[(l1.length:Int)]).length) (c2)) O O Ed O Kb O ?_
 clear hF; rintro w hF -
 replace hF:FR w0 ((sl++sf).map (·.1)) ([(b5,.cells #[.int .i64 ((l1.length:Nat))] 3),(b4,.cells #[.string (bs (Po ks[j]))] 9),(b3,.cells #[.slice none 0 0,.slice none 0 0] 56),(b2,.cells #[.int .i64 k,.string (bs t),.slice A ks.length c,.slice D xs.length e] 27),(b1,.cells #[.slice (A1) ((l1++Qe xs[j]++[Po ks[j]]).length) (c1),.slice (A2) ((f1++Ag xs[j] l1.length++[(l1.length:Int)]).length) (c2)] 56)]++(L_1++(N_2++[]))) w:=hF
 refine Xa (Eb (Ga (Fa (Ca (Va O) (Ca (If (((j+1:Nat):Int)) O O) (Ca (Wb O) (Xa ?_)))))))
 refine Ib ⟨_,?_,j+1,l1++Qe xs[j]++[Po ks[j]],f1++Ag xs[j] l1.length++[(l1.length:Int)],A1,c1,L_1,A2,c2,N_2,O,U,(by rw [hl1,Lp xs ks j U U]; simp only [List.append_assoc]),(by rw [hf1,Yv xs ks j U U,show ls.length+(Tf (xs.take j) ks).length=l1.length by rw [hl1,List.length_append]]; simp only [List.append_assoc]),(by simp only [List.length_append,Wf,List.length_cons,List.length_nil]; omega),(hS1_L),(hS2_N),Iu,hF.drop 2⟩
 omega
 refine Dc (Cc O ?_)
 refine Ga (Ia (Ca (Ec Xc O) (Tc (Mf isAgg25 O hF.F 2 O O) (Ca (Qc O) ?_))))
 refine Pe 1 hF (Za (cs:=#[.string (bs [123])]) underlying25 sizeOf9 zeroValue9 Ua Ua Qb) ?_
 clear hF; rintro b6 w hb6 hF -
 refine Kf [(b6,.cells #[.string (bs [123])] 9),(b3,.cells #[.slice none 0 0,.slice none 0 0] 56),(b2,.cells #[.int .i64 k,.string (bs t),.slice A ks.length c,.slice D xs.length e] 27),(b1,.cells #[.slice P1 l1.length q1,.slice P2 f1.length q2] 56)] (sf1++[]) (news:=[.string (bs [123])]) (len':=(l1++[[123]]).length) (ys:=Wu (l1++[[123]])) Zm hF hL1 O O (O) (fun _=>⟨_,O,Xb (hF.cellsAll 0 O)⟩) (by simp [Value.oneCell']) (by simp only [maxLen,List.length_append,Wf]; omega) (by simp only [List.length_append,List.length_cons,List.length_nil] <;> omega) (by simp [Wu]) (by (try simp only [List.length_append,Wf]); omega) ?_
 clear hF; intro A3 c3 L_3 w hS3_L hF hE hnew
 clear hE hnew
 refine Ca (Ec Xc O) ?_
 refine Me 3 (l:=[.slice (A3) ((l1++[[123]]).length) (c3)]) (cs':=#[.slice (A3) ((l1++[[123]]).length) (c3),.slice P2 f1.length q2]) hF sizeOf25 O (v:=.slice (A3) ((l1++[[123]]).length) (c3)) O O Ed O Kb O ?_
 clear hF; rintro w hF -
 replace hF:FR w0 ((sl++sf).map (·.1)) ([(b6,.cells #[.string (bs [123])] 9),(b3,.cells #[.slice none 0 0,.slice none 0 0] 56),(b2,.cells #[.int .i64 k,.string (bs t),.slice A ks.length c,.slice D xs.length e] 27),(b1,.cells #[.slice (A3) ((l1++[[123]]).length) (c3),.slice P2 f1.length q2] 56)]++(L_3++(sf1++[]))) w:=hF
 refine Bc (Ca (Ec Qd O) (Tc (Mf isAgg42 O hF.F 3 O O) (Ca (Va O) ?_)))
 refine Pe 1 hF (Za (cs:=#[.int .i64 ((ls.length:Nat))]) underlying42 sizeOf3 zeroValue3 Ua Ua Qb) ?_
 clear hF; rintro b7 w hb7 hF -
 refine Kf ([(b7,.cells #[.int .i64 ((ls.length:Nat))] 3),(b6,.cells #[.string (bs [123])] 9),(b3,.cells #[.slice none 0 0,.slice none 0 0] 56),(b2,.cells #[.int .i64 k,.string (bs t),.slice A ks.length c,.slice D xs.length e] 27),(b1,.cells #[.slice (A3) ((l1++[[123]]).length) (c3),.slice P2 f1.length q2] 56)]++L_3) [] (news:=[.int .i64 ((ls.length:Nat))]) (len':=(f1++[(ls.length:Int)]).length) (ys:=Qr (f1++[(ls.length:Int)])) Wh hF hN1 O O (O) (fun _=>⟨_,O,Xb (hF.cellsAll 0 O)⟩) (by simp [Value.oneCell']) (by simp only [maxLen,List.length_append,Wf]; omega) (by simp only [List.length_append,List.length_cons,List.length_nil] <;> omega) (by simp [Qr]) (by (try simp only [List.length_append,Wf]); omega) ?_
 clear hF; intro A4 c4 N_4 w hS4_N hF hE hnew
 clear hE hnew
 refine Ca (Ec Qd O) ?_
 refine Me 4 (l:=[.slice (A4) ((f1++[(ls.length:Int)]).length) (c4)]) (cs':=#[.slice (A3) ((l1++[[123]]).length) (c3),.slice (A4) ((f1++[(ls.length:Int)]).length) (c4)]) hF sizeOf42 O (v:=.slice (A4) ((f1++[(ls.length:Int)]).length) (c4)) O O Ed O Kb O ?_
 clear hF; rintro w hF -
 replace hF:FR w0 ((sl++sf).map (·.1)) ([(b7,.cells #[.int .i64 ((ls.length:Nat))] 3),(b6,.cells #[.string (bs [123])] 9),(b3,.cells #[.slice none 0 0,.slice none 0 0] 56),(b2,.cells #[.int .i64 k,.string (bs t),.slice A ks.length c,.slice D xs.length e] 27),(b1,.cells #[.slice (A3) ((l1++[[123]]).length) (c3),.slice (A4) ((f1++[(ls.length:Int)]).length) (c4)] 56)]++(L_3++(N_4++[]))) w:=hF
 refine Bc (Tc (Wj isAgg56 sizeOf56 O hF.F 4 O O) ?_)
 refine Me 2 (l:=[.slice (A3) ((l1++[[123]]).length) (c3),.slice (A4) ((f1++[(ls.length:Int)]).length) (c4)]) (cs':=#[.slice (A3) ((l1++[[123]]).length) (c3),.slice (A4) ((f1++[(ls.length:Int)]).length) (c4)]) hF sizeOf56 O (v:=.agg #[.slice (A3) ((l1++[[123]]).length) (c3),.slice (A4) ((f1++[(ls.length:Int)]).length) (c4)]) O O Ed O Kb O ?_
 clear hF; rintro w hF -
 replace hF:FR w0 ((sl++sf).map (·.1)) ([(b7,.cells #[.int .i64 ((ls.length:Nat))] 3),(b6,.cells #[.string (bs [123])] 9),(b3,.cells #[.slice (A3) ((l1++[[123]]).length) (c3),.slice (A4) ((f1++[(ls.length:Int)]).length) (c4)] 56),(b2,.cells #[.int .i64 k,.string (bs t),.slice A ks.length c,.slice D xs.length e] 27),(b1,.cells #[.slice (A3) ((l1++[[123]]).length) (c3),.slice (A4) ((f1++[(ls.length:Int)]).length) (c4)] 56)]++(L_3++(N_4++[]))) w:=hF
 refine Ea ?_
 refine Ub (Rb (Sa (Bn O (l:=[.slice (A3) ((l1++[[123]]).length) (c3),.slice (A4) ((f1++[(ls.length:Int)]).length) (c4)]) O isAgg56 sizeOf56 O (hF.cellsAll 2 O)) ?_))
 have e1:ls++Qe (.node k t ks xs)=l1++[[123]]:=by rw [hl1,List.take_of_length_le U,Qe,if_neg U,if_pos hk]; simp only [List.append_assoc]
 have e2:fs++Ag (.node k t ks xs) ls.length=f1++[(ls.length:Int)]:=by rw [hf1,List.take_of_length_le U,Ag,if_neg U,if_pos hk]; simp only [List.append_assoc]
 rw [e1,e2]
 exact ⟨A3,c3,L_3,A4,c4,N_4,O,hF.two hS3_L hS4_N,hF.two_new,hF.same⟩
theorem QV (k:Int) (t:Str) (ks:List Str) (xs:List Tree) (ih:∀ x∈xs,XM x) (A D:Option Addr) (c e:Nat) (S:Nat→Prop) (w0:World) (ls:List Str) (fs:List Int) (A1:Option Addr) (c1:Nat) (sl:List (Nat × Obj)) (A2:Option Addr) (c2:Nat) (sf:List (Nat × Obj)) (hT:Two w0 A1 c1 sl ls A2 c2 sf fs) (hR:Rep S w0 (Vc (.node k t ks xs)) [.int .i64 k,.string (bs t),.slice A ks.length c,.slice D xs.length e]) (hS:∀ b,S b→b < w0.heap.size∧b∉((sl++sf).map (·.1))) (hn:Fe nodeB (.node k t ks xs)=true) (hsz:Oc (.node k t ks xs)≤1000000000) (hm:Lf (.node k t ks xs)≤16777216) (hlf:ls.length=fs.length) (hlen:ls.length+(Qe (.node k t ks xs)).length≤512) (hk:k≠5) (hk6:k≠6):Calls prog 50 #[.agg #[.slice A1 ls.length c1,.slice A2 fs.length c2],.agg #[.int .i64 k,.string (bs t),.slice A ks.length c,.slice D xs.length e]] w0 (De fun v w'=>∃ (A1':Option Addr) (c1':Nat) (sl':List (Nat × Obj)) (A2':Option Addr) (c2':Nat) (sf':List (Nat × Obj)),v=.agg #[.slice A1' (ls++Qe (.node k t ks xs)).length c1',.slice A2' (fs++Ag (.node k t ks xs) ls.length).length c2']∧Two w' A1' c1' sl' (ls++Qe (.node k t ks xs)) A2' c2' sf' (fs++Ag (.node k t ks xs) ls.length)∧(∀ q∈sl'++sf',w0.heap.size≤q.1∨q.1∈((sl++sf).map (·.1)))∧Same ((sl++sf).map (·.1)) w0 w'):=by
 obtain ⟨hn1,hns⟩:=Kg hn
 have hsz1:Fd xs+1≤1000000000:=by rw [Oc] at hsz; omega
 have hm1:t.length≤16777216∧Nk xs≤16777216∧Yl ks≤16777216:=by rw [Lf] at hm; omega
 obtain ⟨A_,c_,D_,e_,hcs,-,-,hK,hX⟩:=hR.tree_inv
 obtain ⟨rfl,rfl,rfl,rfl⟩:A=A_∧c=c_∧D=D_∧e=e_:=by simp only [List.cons.injEq,Value.slice.injEq,and_true,true_and] at hcs; exact ⟨hcs.1.1,hcs.1.2,hcs.2.1,hcs.2.2⟩
 have hXl:=hX.slice_len
 have hKl:=hK.slice_len
 clear hcs
 have hlp:=D1 (.node k t ks xs)
 obtain ⟨hL,hN,hh⟩:=hT
 have hx0:xs=[]:=by rw [nodeB,if_neg hk,if_neg hk6] at hn1; by_cases h:ks≠[]∨xs≠[]; (rw [if_pos h] at hn1; cases hn1); (exact Classical.not_not.1 fun h2=>h (.inr h2))
 have hx00:xs.length=0:=by rw [hx0]; rfl
 have hlT:ls.length+1≤512:=by omega
 refine Ka func50 O ntmps50 Kb (Ee _ _) ?_
 have hF:=Two.start ⟨hL,hN,hh⟩
 refine Ia ?_
 refine Bh hF O ?_
 clear hF; rintro b1 w hb1 hF -
 refine Bh hF O ?_
 clear hF; rintro b2 w hb2 hF -
 refine Fg (cs:=#[.slice none 0 0,.slice none 0 0]) hF zeroValue56 O ?_
 clear hF; rintro b3 w hb3 hF -
 refine Bc (Ca (Ec Xc O) (Tc (Mf isAgg25 O hF.F 2 O O) (Ca (Df underlying25 O) (Ca (Wb O) (Bc (Ca (Rd O) (Xa ?_)))))))
 refine Ga (Ha (Ia (Ca (Ec Ke O) (Tc (Hl isAgg3 O hF.F 1 O O) (Ja (v:=.bool false) (Zc (Ig O O) U) (Ea (Qj O (Ha (Ha ?_)))))))))
 refine Fa (Ca (Ec Ke O) (Tc (Hl isAgg3 O hF.F 1 O O) (Ja (v:=.bool true) (Ce (Ir O O) U) (Ca (Jc O) (Ca (Ec Ke O) (Tc (Hl isAgg3 O hF.F 1 O O) (Ja (v:=.bool true) (Ce (Ir O O) U) (Ca (Ic O O) (Ea (Ae O (Fa (Tc (Wj isAgg27 sizeOf27 O hF.F 1 O O) ?_))))))))))))
 refine Jb hF (OH (.node k t ks xs) U U S _ [.int .i64 k,.string (bs t),.slice A ks.length c,.slice D xs.length e] (hF.repS hR hS)) (Cb OU O O) ?_
 clear hF; intro w hF
 refine Ca (Ul O) (Ca (D7 O O) (Ca (Fm O O) (Ca (Rd O) (Ea (Ha (Ia (Ca (Wb O) (Ea (Ta ?_)))))))))
 refine Lc (fun μ σ w=>μ=0∧AllEq σ [(2,.pointer (some ⟨b1,0,none⟩)),(3,.pointer (some ⟨b2,0,none⟩)),(4,.pointer (some ⟨b3,0,none⟩)),(5,.int .i64 ((ls.length:Nat))),(6,.string (bs (Tg (.node k t ks xs)))),(7,.int .i64 0)]∧FR w0 ((sl++sf).map (·.1)) ([(b3,.cells #[.slice none 0 0,.slice none 0 0] 56),(b2,.cells #[.int .i64 k,.string (bs t),.slice A ks.length c,.slice D xs.length e] 27),(b1,.cells #[.slice A1 ls.length c1,.slice A2 fs.length c2] 56)]++(sl++(sf++[]))) w) _ ⟨O,Iu,hF⟩ ?_
 clear hF; rintro μ σ w ⟨rfl,hs,hF⟩
 refine Cg.slots hs ?_
 clear hs; intro σ
 refine Ha (Ia (Ca (Va O) (Ca (Ec Pc O) (Tc (Mf isAgg22 O hF.F 1 O O) (Ca (Df underlying22 O) (Ja (v:=.bool false) (Zc (E7 O O) U) (Ea (Ie O ?_))))))))
 refine Dc (Cc O ?_)
 refine Ga (Ia (Ca (Ec Xc O) (Tc (Mf isAgg25 O hF.F 2 O O) (Ca (Qc O) ?_))))
 refine Pe 1 hF (Za (cs:=#[.string (bs (Tg (.node k t ks xs)))]) underlying25 sizeOf9 zeroValue9 Ua Ua Qb) ?_
 clear hF; rintro b4 w hb4 hF -
 refine Kf [(b4,.cells #[.string (bs (Tg (.node k t ks xs)))] 9),(b3,.cells #[.slice none 0 0,.slice none 0 0] 56),(b2,.cells #[.int .i64 k,.string (bs t),.slice A ks.length c,.slice D xs.length e] 27),(b1,.cells #[.slice A1 ls.length c1,.slice A2 fs.length c2] 56)] (sf++[]) (news:=[.string (bs (Tg (.node k t ks xs)))]) (len':=(ls++[Tg (.node k t ks xs)]).length) (ys:=Wu (ls++[Tg (.node k t ks xs)])) Zm hF hL O O (O) (fun _=>⟨_,O,Xb (hF.cellsAll 0 O)⟩) (by simp [Value.oneCell']) (by simp only [maxLen,List.length_append,Wf]; omega) (by simp only [List.length_append,List.length_cons,List.length_nil] <;> omega) (by simp [Wu]) (by (try simp only [List.length_append,Wf]); omega) ?_
 clear hF; intro A0 c0 L_0 w hS0_L hF hE hnew
 clear hE hnew
 refine Ca (Ec Xc O) ?_
 refine Me 3 (l:=[.slice (A0) ((ls++[Tg (.node k t ks xs)]).length) (c0)]) (cs':=#[.slice (A0) ((ls++[Tg (.node k t ks xs)]).length) (c0),.slice A2 fs.length c2]) hF sizeOf25 O (v:=.slice (A0) ((ls++[Tg (.node k t ks xs)]).length) (c0)) O O Ed O Kb O ?_
 clear hF; rintro w hF -
 replace hF:FR w0 ((sl++sf).map (·.1)) ([(b4,.cells #[.string (bs (Tg (.node k t ks xs)))] 9),(b3,.cells #[.slice none 0 0,.slice none 0 0] 56),(b2,.cells #[.int .i64 k,.string (bs t),.slice A ks.length c,.slice D xs.length e] 27),(b1,.cells #[.slice (A0) ((ls++[Tg (.node k t ks xs)]).length) (c0),.slice A2 fs.length c2] 56)]++(L_0++(sf++[]))) w:=hF
 refine Bc (Ca (Ec Qd O) (Tc (Mf isAgg42 O hF.F 3 O O) (Ca (Va O) ?_)))
 refine Pe 1 hF (Za (cs:=#[.int .i64 ((ls.length:Nat))]) underlying42 sizeOf3 zeroValue3 Ua Ua Qb) ?_
 clear hF; rintro b5 w hb5 hF -
 refine Kf ([(b5,.cells #[.int .i64 ((ls.length:Nat))] 3),(b4,.cells #[.string (bs (Tg (.node k t ks xs)))] 9),(b3,.cells #[.slice none 0 0,.slice none 0 0] 56),(b2,.cells #[.int .i64 k,.string (bs t),.slice A ks.length c,.slice D xs.length e] 27),(b1,.cells #[.slice (A0) ((ls++[Tg (.node k t ks xs)]).length) (c0),.slice A2 fs.length c2] 56)]++L_0) [] (news:=[.int .i64 ((ls.length:Nat))]) (len':=(fs++[(ls.length:Int)]).length) (ys:=Qr (fs++[(ls.length:Int)])) Wh hF hN O O (O) (fun _=>⟨_,O,Xb (hF.cellsAll 0 O)⟩) (by simp [Value.oneCell']) (by simp only [maxLen,List.length_append,Wf]; omega) (by simp only [List.length_append,List.length_cons,List.length_nil] <;> omega) (by simp [Qr]) (by (try simp only [List.length_append,Wf]); omega) ?_
 clear hF; intro A1 c1 N_1 w hS1_N hF hE hnew
 clear hE hnew
 refine Ca (Ec Qd O) ?_
 refine Me 4 (l:=[.slice (A1) ((fs++[(ls.length:Int)]).length) (c1)]) (cs':=#[.slice (A0) ((ls++[Tg (.node k t ks xs)]).length) (c0),.slice (A1) ((fs++[(ls.length:Int)]).length) (c1)]) hF sizeOf42 O (v:=.slice (A1) ((fs++[(ls.length:Int)]).length) (c1)) O O Ed O Kb O ?_
 clear hF; rintro w hF -
 replace hF:FR w0 ((sl++sf).map (·.1)) ([(b5,.cells #[.int .i64 ((ls.length:Nat))] 3),(b4,.cells #[.string (bs (Tg (.node k t ks xs)))] 9),(b3,.cells #[.slice none 0 0,.slice none 0 0] 56),(b2,.cells #[.int .i64 k,.string (bs t),.slice A ks.length c,.slice D xs.length e] 27),(b1,.cells #[.slice (A0) ((ls++[Tg (.node k t ks xs)]).length) (c0),.slice (A1) ((fs++[(ls.length:Int)]).length) (c1)] 56)]++(L_0++(N_1++[]))) w:=hF
 refine Bc (Tc (Wj isAgg56 sizeOf56 O hF.F 4 O O) ?_)
 refine Me 2 (l:=[.slice (A0) ((ls++[Tg (.node k t ks xs)]).length) (c0),.slice (A1) ((fs++[(ls.length:Int)]).length) (c1)]) (cs':=#[.slice (A0) ((ls++[Tg (.node k t ks xs)]).length) (c0),.slice (A1) ((fs++[(ls.length:Int)]).length) (c1)]) hF sizeOf56 O (v:=.agg #[.slice (A0) ((ls++[Tg (.node k t ks xs)]).length) (c0),.slice (A1) ((fs++[(ls.length:Int)]).length) (c1)]) O O Ed O Kb O ?_
 clear hF; rintro w hF -
 replace hF:FR w0 ((sl++sf).map (·.1)) ([(b5,.cells #[.int .i64 ((ls.length:Nat))] 3),(b4,.cells #[.string (bs (Tg (.node k t ks xs)))] 9),(b3,.cells #[.slice (A0) ((ls++[Tg (.node k t ks xs)]).length) (c0),.slice (A1) ((fs++[(ls.length:Int)]).length) (c1)] 56),(b2,.cells #[.int .i64 k,.string (bs t),.slice A ks.length c,.slice D xs.length e] 27),(b1,.cells #[.slice (A0) ((ls++[Tg (.node k t ks xs)]).length) (c0),.slice (A1) ((fs++[(ls.length:Int)]).length) (c1)] 56)]++(L_0++(N_1++[]))) w:=hF
 refine Ea ?_
 refine Ub (Rb (Sa (Bn O (l:=[.slice (A0) ((ls++[Tg (.node k t ks xs)]).length) (c0),.slice (A1) ((fs++[(ls.length:Int)]).length) (c1)]) O isAgg56 sizeOf56 O (hF.cellsAll 2 O)) ?_))
 have e1:ls++Qe (.node k t ks xs)=ls++[Tg (.node k t ks xs)]:=by rw [Qe,if_neg U,if_neg U]
 have e2:fs++Ag (.node k t ks xs) ls.length=fs++[(ls.length:Int)]:=by rw [Ag,if_neg U,if_neg U]
 rw [e1,e2]
 exact ⟨A0,c0,L_0,A1,c1,N_1,O,hF.two hS0_L hS1_N,hF.two_new,hF.same⟩
theorem KW (x:Tree):XM x:=Tree.ind (Q:=XM) (fun k t ks xs ih=>by
  intro S w0 cs ls fs A1 c1 sl A2 c2 sf hT hR hS hn hsz hm hlf hlen
  have hR0:=hR.old
  obtain ⟨A,c,D,e,rfl,-⟩:=hR0.tree_inv
  have hS':∀ b,RS S w0 b→b < w0.heap.size∧b∉((sl++sf).map (·.1)):=fun b hb=>⟨hb.2,fun hm=>by obtain ⟨q,hq,rfl⟩:=List.mem_map.1 hm; exact hS q hq hb.1⟩
  by_cases h5:k=5
  · exact UU k t ks xs ih A D c e (RS S w0) w0 ls fs A1 c1 sl A2 c2 sf hT hR0 hS' hn hsz hm hlf hlen h5
  · by_cases h6 : k = 6
    · exact VV k t ks xs ih A D c e (RS S w0) w0 ls fs A1 c1 sl A2 c2 sf hT hR0 hS' hn hsz hm hlf hlen h6
    · exact QV k t ks xs ih A D c e (RS S w0) w0 ls fs A1 c1 sl A2 c2 sf hT hR0 hS' hn hsz hm hlf hlen h5 h6) x
end Go.Scarf
namespace Go.Scarf
open Go.RowKit Go.Proofs Go.Proofs.Tryz
theorem YJ (x:Tree) (S:Nat→Prop) (w0:World) (cs:List Value) (hR:Rep S w0 (Vc x) cs) (hG:Gl w0) (hsz:Oc x≤256) (hm:Lf x≤16777216) (hx:Je x=true):Calls prog 32 #[.agg cs.toArray] w0 (De fun v w'=>∃ A c B e,v=.tuple #[.agg #[.slice A (Uf x).length c,.slice B (Hh x).length e],.int .i64 0]∧Rep (Btw w0 w') w' (Hf (Uf x)) [.slice A (Uf x).length c]∧Rep (Btw w0 w') w' (.slice ((Hh x).map Ug)) [.slice B (Hh x).length e]∧Same [] w0 w'):=by
 have hl:cs.length=4:=hR.length.trans (Dd x)
 have ho:=hR.one_
 refine Ka func32 O ntmps32 Kb (Sc _) ?_
 have hF:=FR.start w0 []
 refine Ia ?_
 refine Io (v:=.agg (List.toArray cs)) (cs:=(List.toArray cs)) hF O O ?_
 clear hF; rintro b1 w hb1 hF -
 refine Fg (cs:=#[.slice none 0 0,.slice none 0 0]) hF zeroValue56 O ?_
 clear hF; rintro b2 w hb2 hF -
 refine Ca (Wb O) (Bc (Ja (v:=.agg (List.toArray cs)) (Fc (l:=cs) isAgg27 sizeOf27 O hl (hF.cellsAll 1 O)) ?_))
 refine Jb hF (Ng (v':=.bool true) (H2 x U U _ _ cs (hF.rep hR)) (congrArg Value.bool hx)) (Cb BM O O) ?_
 clear hF; intro w hF
 refine Ca (Hc O) (Ea (Ha (Ia (Ca (Jc O) (Ca (Pn (b:=true) O) (Ea (Qj O (Ha ?_))))))))
 refine Fa ?_
 refine Ja (w':=w) (v:=.agg #[.slice none 0 0,.slice none 0 0]) Qb ?_
 refine Ja (v:=.agg (List.toArray cs)) (Fc (l:=cs) isAgg27 sizeOf27 O hl (hF.cellsAll 1 O)) ?_
 refine Pb (BD x U U _ _ cs (hF.rep hR)) (Cb WY O O) ?_
 rintro _ w ⟨ct,rfl,hRt,hE⟩
 have hlt:ct.length=4:=hRt.length.trans (Dd _)
 have hot:=hRt.one_
 replace hF:=hF.ext hE
 clear hE
 obtain ⟨B,hBw⟩:∃ B,B=w.heap.size:=⟨_,rfl⟩
 have hBl:w0.heap.size≤B:=by rw [hBw]; exact hF.same.size
 have hb2B:b2 < B:=by rw [hBw]; exact hF.lt (i:=0) rfl
 refine Pb (KW (Qg x) _ w ct [] [] none 0 [] none 0 [] ⟨SlB.nil _ _,SlB.nil _ _,by simp⟩ hRt Ma (Lo hx) (Kz x U) (Nat.le_trans (Hq x) hm) O (by have:=Jk hx; unfold Uf at this; simp only [List.length_nil]; omega)) (Vb ZL O O O) ?_
 rintro _ w ⟨P1,q1,sl,P2,q2,sf,rfl,hT2,hn2,hE⟩
 replace hE:Same [] _ w:=hE
 have hrow:∀ q∈sl++sf,w.heap[q.1]? = some q.2∧B≤q.1:=fun q hq=>⟨hT2.2.2 q hq,by rcases hn2 q hq with h | h; (omega); (simp at h)⟩
 replace hF:=hF.ext hE
 obtain ⟨hL,hN,-⟩:=hT2
 replace hL:SlB 9 1 P1 (Uf x).length q1 (Wu (Uf x)) sl:=hL
 replace hN:SlB 3 1 P2 (Hh x).length q2 (Qr (Hh x)) sf:=hN
 clear hE
 refine Tx (l:=[.slice (P1) ((Uf x).length) (q1),.slice (P2) ((Hh x).length) (q2)]) hF zeroValue56 sizeOf56 O (v:=.agg #[.slice (P1) ((Uf x).length) (q1),.slice (P2) ((Hh x).length) (q2)]) O O Ed O ?_
 clear hF; intro b3 w hb3 hF hE
 replace hrow:=fun q hq=>And.intro ((hE.block q.1 (Ra (hrow q hq).1) (by have:=(hrow q hq).2; simp <;> omega)).trans (hrow q hq).1) (hrow q hq).2
 clear hE
 refine Ea (Ha (Ia (Ca (Ec Xc O) (Tc (Mf isAgg25 O hF.F 0 O O) (Ca (Df underlying25 O) ?_)))))
 refine Ja (v:=.bool false) (Zc (Xz O O) (by have:=Jk hx; omega)) ?_
 refine Ea (Qj O (Ia (Tc (Wj isAgg56 sizeOf56 O hF.F 0 O O) ?_)))
 refine Ll hF sizeOf56 O O I5 ?_
 clear hF; intro w hF hE
 replace hrow:=fun q hq=>And.intro ((hE.block q.1 (Ra (hrow q hq).1) (by have:=(hrow q hq).2; simp <;> omega)).trans (hrow q hq).1) (hrow q hq).2
 clear hE
 refine Ca (Wb O) (Ea ?_)
 refine Ub (Rb (Sa (Ve O (l:=[.slice (P1) ((Uf x).length) (q1),.slice (P2) ((Hh x).length) (q2)]) O isAgg56 sizeOf56 O (hF.cellsAll 1 O) (v:=.int .i64 0) O) ?_))
 refine ⟨P1,q1,P2,q2,O,?_,?_,hF.same⟩
 have:=Tb.rows (w0:=w0) (w:=w) (ds:=(Uf x).map Wp) (by rw [List.length_map]; exact hL) (fun q hq=>hrow q (by simp [hq])) hBl (Hy (fun s hs=>by have:=ZH (Qg x) (Nat.le_trans (Hq x) U) s hs; omega))
 rw [List.length_map] at this
 exact this
 have:=Tb.rows (w0:=w0) (w:=w) (ds:=(Hh x).map Ug) (by rw [List.length_map]; exact hN) (fun q hq=>hrow q (by simp [hq])) hBl (On (fun s hs=>by obtain ⟨i,hi,rfl⟩:=List.getElem_of_mem hs; have h1:=(Wv hx hsz).2.2 i hi hi; have:=J6 x; have:=Jk hx; omega))
 rw [List.length_map] at this
 exact this
end Go.Scarf
