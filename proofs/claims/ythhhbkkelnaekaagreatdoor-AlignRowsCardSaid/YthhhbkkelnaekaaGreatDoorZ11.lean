/- A part of the proof. -/
import Derived.Test.YthhhbkkelnaekaaGreatDoorZ8
import Derived.Test.YthhhbkkelnaekaaGreatDoorZ4
import Derived.Test.YthhhbkkelnaekaaGreatDoorW19
set_option linter.all false
set_option maxHeartbeats 8000000
set_option maxRecDepth 10000
namespace Go.Scarf
open Go.RowKit Go.Proofs Go.Proofs.Tryz
theorem MD (k:Int) (t:Str) (ks:List Str) (xs:List Tree) (ih:∀ x∈xs,WJ x) (A D:Option Addr) (c e:Nat) (w0:World) (B pb:Nat) (ls:List Str) (fs:List Int) (hT:Tb w0 B pb ls fs) (hG:Gl w0) (hpN:8≤pb) (hlf:ls.length=fs.length) (hR:Rep (fun b=>b∉Wk2 w0 B pb) w0 (Vc (.node k t ks xs)) [.int .i64 k,.string (bs t),.slice A ks.length c,.slice D xs.length e]) (hn:Fe nodeB (.node k t ks xs)=true) (hsz:Oc (.node k t ks xs)≤1000000000) (hm:Lf (.node k t ks xs)≤1073741824) (hlen:ls.length+(Qe (.node k t ks xs)).length≤512):Calls prog 43 #[.pointer (some ⟨pb,0,none⟩),.agg #[.int .i64 k,.string (bs t),.slice A ks.length c,.slice D xs.length e]] w0 (De fun v w'=>v=.tuple #[]∧Tb w' B pb (ls++Qe (.node k t ks xs)) (fs++Ag (.node k t ks xs) ls.length)∧Same (Wk2 w0 B pb) w0 w'):=by
 obtain ⟨hn1,hns⟩:=Kg hn
 have hsz1:Fd xs+1≤1000000000:=by rw [Oc] at hsz; omega
 have hm1:Nk xs≤1073741824∧Yl ks≤1073741824:=by rw [Lf] at hm; omega
 have hlp:=D1 (.node k t ks xs)
 have hRw:=hR
 refine Ka func43 O ntmps43 Kb (Ee _ _) ?_
 have hB:=TW.start hT
 have hF:=FR.start w0 (Wk2 w0 B pb)
 refine Ia ?_
 refine WX (.pointer _) hF O ?_
 clear hF; intro b1 w hb1 hF hE
 have hnb1:b1≠pb:=by have:=hB.lt; omega
 replace hB:=hB.ext hE
 replace hRw:=hRw.off2_ext hE
 clear hE
 refine Bh hF O ?_
 clear hF; intro b2 w hb2 hF hE
 have hnb2:b2≠pb:=by have:=hB.lt; omega
 replace hB:=hB.ext hE
 replace hRw:=hRw.off2_ext hE
 clear hE
 refine Ea (Ha ?_)
 have hRw2:=hRw
 obtain ⟨A_,c_,D_,e_,he_,-,-,hKw,hXw⟩:=hRw2.tree_inv
 simp only [List.cons.injEq,Value.slice.injEq,and_true] at he_
 obtain ⟨-,-,⟨rfl,-,rfl⟩,⟨rfl,-,rfl⟩⟩:=he_
 refine Fa (Ca (Ec Ke O) (Tc (Hl isAgg3 O hF.F 0 O O) (Ea (Ta (Ia (Ca (Th O O) (Ca (Hc O) (Ea ?_))))))))
 refine Yb O O (fun hc0=>?_) (fun hc0=>?_)
 refine Fa (Tc (TQ isAgg97 O hF.F 1 O O) (Ja (v:=.func (.func 66) #[] #[.pointer (some ⟨b2,0,none⟩),.pointer (some ⟨b1,0,none⟩)]) (Qo O O) ?_))
 have h5:k=5:=by assumption
 have hl5:ls.length+(Wg xs).length+1≤512:=by rw [Qe,if_pos h5,List.length_append,List.length_singleton] at hlen; omega
 replace hl5:ls.length+(Wg xs).length≤511:=by omega
 refine Pb (GI w B pb 66 #[.pointer (some ⟨b2,0,none⟩),.pointer (some ⟨b1,0,none⟩)] FZ ls _ fs _ [91] hB.tb (BN k t ks xs A D c e w B pb ls fs hB.tb (hG.wrote2 hF.same (by have:=hT.lt; omega) hpN) hpN hlf ih hns U U b2 b1 (hF.heap (i:=0) O) (hF.heap (i:=1) O) (by assumption) hXw U) (by rw [List.length_append]; omega) (by rw [List.length_append,Zx]; omega)) (Gd JI O O O O) ?_
 rintro _ w ⟨rfl,hT2,hE⟩
 replace hF:=hF.wrote2 hB hE (by intro z hz; simp only [List.mem_cons,List.not_mem_nil,or_false] at hz; rcases hz with rfl | rfl <;> exact ⟨.inl rfl,by assumption⟩)
 replace hB:=hB.wrote hT2 hE
 clear hE
 refine Xa (Eb ?_)
 refine Sf (Wd (Ih O) ?_)
 have h5:k=5:=by assumption
 rw [Qe,Ag,if_pos h5,if_pos h5,←List.append_assoc,←List.append_assoc]
 exact ⟨O,hB.tb,hF.same⟩
 refine Ia (Ca (Th O O) (Ca (Hc O) (Ea ?_)))
 refine Yb O O (fun hc1=>?_) (fun hc1=>?_)
 refine Fa (Tc (TQ isAgg97 O hF.F 1 O O) (Ja (v:=.func (.func 67) #[] #[.pointer (some ⟨b2,0,none⟩),.pointer (some ⟨b1,0,none⟩)]) (Qo O O) ?_))
 have h6:k=6:=by assumption
 have hl5:ls.length+(Tf xs ks).length+1≤512:=by rw [Qe,if_neg U,if_pos h6,List.length_append,List.length_singleton] at hlen; omega
 refine Pb (GI w B pb 67 #[.pointer (some ⟨b2,0,none⟩),.pointer (some ⟨b1,0,none⟩)] en_67 ls _ fs _ [123] hB.tb (BT k t ks xs A D c e w B pb ls fs hB.tb (hG.wrote2 hF.same (by have:=hT.lt; omega) hpN) hpN hlf ih hns U U (Us (h6 ▸ hn1)).2 (fun s hs=>by have:=Uh hs; omega) b2 b1 (hF.heap (i:=0) O) (hF.heap (i:=1) O) (by assumption) (by assumption) hXw hKw U) (by rw [List.length_append]; omega) (by rw [List.length_append,Gs]; omega)) (Gd JI O O O O) ?_
 rintro _ w ⟨rfl,hT2,hE⟩
 replace hF:=hF.wrote2 hB hE (by intro z hz; simp only [List.mem_cons,List.not_mem_nil,or_false] at hz; rcases hz with rfl | rfl <;> exact ⟨.inl rfl,by assumption⟩)
 replace hB:=hB.wrote hT2 hE
 clear hE
 refine Xa (Eb ?_)
 refine Sf (Wd (Ih O) ?_)
 have h6:k=6:=by assumption
 rw [Qe,Ag,if_neg U,if_pos h6,if_neg U,if_pos h6,←List.append_assoc,←List.append_assoc]
 exact ⟨O,hB.tb,hF.same⟩
 refine Uc [] (.free 0 (.free 1 (.act 2 (.act 3 .nil)))) hF ?_
 clear hF; intro w hF hE
 replace hB:=hB.ext hE
 replace hRw:=hRw.off2_ext hE
 clear hE
 refine ⟨fun wq=>FR w0 (Wk2 w0 B pb) _ wq,hF,?_⟩
 refine Uk O (TQ isAgg97 O C0 1 O O) (Uk O (Wj isAgg27 sizeOf27 O C0 0 O O) ?_)
 refine Ye O (DH (.node k t ks xs) _ _ [.int .i64 k,.string (bs t),.slice A ks.length c,.slice D xs.length e] hRw (hG.wrote2 hF.same (by have:=hT.lt; omega) hpN) U U) (Cb WT O O) ?_
 rintro _ w ⟨rfl,hE⟩
 replace hF:=hF.ext hE
 replace hB:=hB.ext hE
 replace hRw:=hRw.off2_ext hE
 clear hE
 refine ⟨hF,?_⟩
 refine Ye O (GI w B pb 71 #[] RY ls _ fs _ (Tg (.node k t ks xs)) hB.tb (KS w B pb ls fs hB.tb) U U) (Gd JI O O O O) ?_
 rintro _ w ⟨rfl,hT2,hE⟩
 replace hF:=hF.wrote2 hB hE (by intro z hz; simp only [List.mem_cons,List.not_mem_nil,or_false] at hz; rcases hz with rfl | rfl <;> exact ⟨.inl rfl,by assumption⟩)
 replace hB:=hB.wrote hT2 hE
 clear hE
 refine ⟨hF,?_⟩
 refine Mc (Eb ?_)
 refine Sf (Wd (Ih O) ?_)
 rw [Qe,Ag,if_neg U,if_neg U,if_neg U,if_neg U]
 exact ⟨O,hB.tb,hF.same⟩
theorem YQ (x:Tree):WJ x:=Tree.ind (Q:=WJ) (fun k t ks xs ih=>by
  intro w0 B pb ls fs cs hT hR hG hpN hlf hn hsz hm hlen
  have hR0:=hR
  obtain ⟨A,c,D,e,rfl,-⟩:=hR0.tree_inv
  exact MD k t ks xs ih A D c e w0 B pb ls fs hT hG hpN hlf hR hn hsz hm hlen) x
end Go.Scarf
namespace Go.Scarf
open Go.RowKit Go.Proofs Go.Proofs.Tryz
def Uf (x:Tree):List Str:=Qe (Qg x)
def Hh (x:Tree):List Int:=Ag (Qg x) 0
theorem J6 (x:Tree):(Hh x).length=(Uf x).length:=Wf _ 0
theorem Lo {x:Tree} (h:Je x=true):Fe nodeB (Qg x)=true:=Np (by rw [Fq (Ln h)]; exact OI (Ln h))
theorem Jk {x:Tree} (h:Je x=true):(Uf x).length≤2 * Oc x:=by
  have h1:=XW (Qg x) (Lo h)
  have h2:=PG (Qg x) (Lo h)
  have h3:Oc (Qg x)=Oc x:=by rw [Fq (Ln h)]; exact (Iz x (Np (Ln h))).1
  unfold Uf
  omega
theorem Wv {x:Tree} (h:Je x=true) (hs:Oc x≤256):Xh (Uf x) (Hh x):=QC _ (by have:=Jk h; unfold Uf at this; omega)
theorem R7:∀ (xs:List Tree),(∀ x∈xs,∀ s∈Qe x,s.length≤140737488355329)→∀ s∈Wg xs,s.length≤140737488355329
  | [],_,s,hs=>by rw [Wg] at hs; cases hs
  | x :: xs, h, s, hs => by
    rw [Wg] at hs
    rcases List.mem_append.1 hs with h1 | h1
    · exact h x Ma s h1
    · exact R7 xs (fun y hy=>h y (by simp [hy])) s h1
theorem P6:∀ (xs:List Tree) (ks:List Str),(∀ x∈xs,∀ s∈Qe x,s.length≤140737488355329)→(∀ k∈ks,k.length≤1073741824)→∀ s∈Tf xs ks,s.length≤140737488355329
  | [],_,_,_,s,hs=>by rw [Tf] at hs; cases hs
  | x :: xs, ks, h, hk, s, hs => by
    rw [Tf] at hs
    rcases List.mem_append.1 hs with h1 | h1
    · exact h x Ma s h1
    · rcases List.mem_cons.1 h1 with rfl | h2
      · have:Lf (.node 4 (ks.headD []) [] [])≤1073741824:=by
          rw [Jr]
          cases ks with
          | nil=>simp
          | cons k ks=>exact hk k Ma
        have:=Fu _ this
        unfold Po
        simp only [List.length_cons]; omega
      · exact P6 xs ks.tail (fun y hy=>h y (by simp [hy])) (fun k hk2=>hk k (List.mem_of_mem_tail hk2)) s h2
theorem ZH (x:Tree):Lf x≤1073741824→∀ s∈Qe x,s.length≤140737488355329:=Tree.ind (Q:=fun x=>Lf x≤1073741824→∀ s∈Qe x,s.length≤140737488355329) (fun k t ks xs ih hm s hs=>by
  have hm0:=hm
  rw [Lf] at hm0
  have hx:∀ x∈xs,∀ s∈Qe x,s.length≤140737488355329:=fun x hx=>ih x hx (by have:=Ch hx; omega)
  rw [Qe] at hs
  split at hs
  · rcases List.mem_append.1 hs with h | h
    · exact R7 xs hx s h
    · rw [List.mem_singleton.1 h]; simp
  · split at hs
    · rcases List.mem_append.1 hs with h | h
      · exact P6 xs ks hx (fun k hk=>by have:=Uh hk; omega) s h
      · rw [List.mem_singleton.1 h]; simp
    · rw [List.mem_singleton.1 hs]
      have:=Fu _ hm
      omega) x
theorem Tb.rows {w0 w:World} {B:Nat} {A:Option Addr} {e c:Nat} {ds:List D} {xs:List Value} {sb:List (Nat × Obj)} (hS:SlB e 1 A ds.length c xs sb) (hq:∀ q∈sb,w.heap[q.1]? = some q.2∧B≤q.1) (hB:w0.heap.size≤B) (hr:RepL (Btw w0 w) w ds xs):Rep (Btw w0 w) w (.slice ds) [.slice A ds.length c]:=by
  refine hS.repOf (fun q h=>⟨(hq q h).1,?_,Ra (hq q h).1,?_⟩) hr O
  · have:=(hq q h).2; omega
  · obtain ⟨cur, he⟩ := hS.typ.2 q h
    exact ⟨cur,e,by rw [(hq q h).1,he]⟩
theorem Hy {S:Nat→Prop} {wx:World}:∀ {q:List Str},(∀ s∈q,s.length≤9223372036854775807)→RepL S wx (q.map Wp) (q.map fun s=>Value.string (bs s))
  | [],_=>RepL.nil_mk
  | s::q,h=>RepL.cons_mk (Rep.lit_mk (v:=.string (bs s)) (h s Ma)) (Hy fun x hx=>h x (by simp [hx]))
theorem TP (x:Tree) (S:Nat→Prop) (w0:World) (cs:List Value) (hR:Rep S w0 (Vc x) cs) (hG:Gl w0) (hsz:Oc x≤256) (hm:Lf x≤1073741824) (hx:Je x=true):Calls prog 29 #[.agg cs.toArray] w0 (De fun v w'=>∃ A c B e,v=.tuple #[.agg #[.slice A (Uf x).length c,.slice B (Hh x).length e],.int .i64 0]∧Rep (Btw w0 w') w' (Hf (Uf x)) [.slice A (Uf x).length c]∧Rep (Btw w0 w') w' (.slice ((Hh x).map Ug)) [.slice B (Hh x).length e]∧Same [] w0 w'):=by
 have hl:cs.length=4:=hR.length.trans (Dd x)
 have ho:=hR.one_
 refine Ka func29 O ntmps29 Kb (Sc _) ?_
 have hF:=FR.start w0 []
 refine Ia ?_
 refine Io (v:=.agg (List.toArray cs)) (cs:=(List.toArray cs)) hF O O ?_
 clear hF; rintro b1 w hb1 hF -
 refine Fg (cs:=#[.slice none 0 0,.slice none 0 0]) hF zeroValue56 O ?_
 clear hF; rintro b2 w hb2 hF -
 refine Ca (Wb O) (Ea (Ha (Ia (Ja (v:=.agg (List.toArray cs)) (Fc (l:=cs) isAgg27 sizeOf27 O hl (hF.cellsAll 1 O)) ?_))))
 refine Jb hF (Ng (v':=.bool true) (N8 x U _ _ cs (hF.rep hR) (F9 x U) (hG.ext hF.same)) (congrArg Value.bool hx)) (Cb MP O O) ?_
 clear hF; intro w hF
 refine Ca (Pn (b:=true) O) (Ea (Qj O (Ia ?_)))
 refine Fg (cs:=#[.slice none 0 0,.slice none 0 0]) hF zeroValue79 O ?_
 clear hF; rintro b3 w hb3 hF -
 refine Bc (Ja (v:=.agg (List.toArray cs)) (Fc (l:=cs) isAgg27 sizeOf27 O hl (hF.cellsAll 2 O)) ?_)
 have lb3:=hF.lt (i:=0) rfl
 have lb2:=hF.lt (i:=1) rfl
 have lb1:=hF.lt (i:=2) rfl
 refine Pb (UK x U _ _ cs (hF.rep hR) (F9 x U) (hG.ext hF.same)) (Cb en_44 O O) ?_
 rintro _ w ⟨ct,rfl,hRt,hE⟩
 have hlt:ct.length=4:=hRt.length.trans (Dd _)
 have hot:=hRt.one_
 have hgr:=hE.size
 replace hF:=hF.ext hE
 clear hE
 have hTb:Tb w w.heap.size b3 [] []:=⟨by omega,Nat.le_refl _,none,0,[],none,0,[],hF.heap (i:=0) rfl,SlB.nil _ _,SlB.nil _ _,by simp⟩
 have hge3:=hF.ge (i:=0) rfl
 refine Pb (YQ (Qg x) w w.heap.size b3 [] [] ct hTb (hRt.weaken fun b hb _ hw=>by rcases Bk.1 hw with rfl | ⟨h1,h2,-⟩; (have:=hb.1; omega); omega) (hG.ext hF.same) (by have:=hF.ge (i:=0) rfl; have:=hG.size; omega) rfl (Lo hx) (Kz x U) (Nat.le_trans (Hq x) hm) (by have:=Jk hx; unfold Uf at this; simp only [List.length_nil]; omega)) (Vb PO rfl rfl rfl) ?_
 obtain ⟨B,hBw⟩:∃ B,B=w.heap.size:=⟨_,rfl⟩
 rw [←hBw]
 rintro _ w ⟨rfl,hT2,hE⟩
 have hBl:w0.heap.size≤B:=by have:=hF.same.size; omega
 have hb2B:b2 < B:=by omega
 replace hF:=(hF.drop 1).touch hE (fun b hb=>by rcases Bk.1 hb with rfl | ⟨-,h2,-⟩; (refine ⟨fun h=>absurd h U,fun z hz e=>?_⟩; have hd:=(List.pairwise_cons.1 hF.desc).1 z hz; exact hd e); (refine ⟨fun h=>absurd h U,fun z hz e=>?_⟩; have:z.1 < B:=(by rw [hBw]; exact Ra (hF.memHeap (List.mem_cons_of_mem _ hz))); omega))
 simp only [List.nil_append,List.length_nil] at hT2
 obtain ⟨-,-,P1,q1,sl,P2,q2,sf,hh,hL,hN,hrow⟩:=hT2
 clear hE
 refine Ea (Ha (Ia (Ca (Ec Sg O) (Ca (Ec Xc O) (Ja (v:=.slice (P1) ((Uf x).length) (q1)) (Ya isAgg25 O (Ac hh 0)) (Ca (Df underlying25 O) ?_))))))
 refine Ja (v:=.bool false) (Zc (Xz O O) (by have:=Jk hx; omega)) ?_
 refine Ea (Qj O (Ia (Ca (Ec Sg O) (Ja (Fc (l:=[.slice (P1) ((Uf x).length) (q1),.slice (P2) ((Hh x).length) (q2)]) isAgg56 sizeOf56 O O (W3 hh)) ?_))))
 refine Ll hF sizeOf56 O O Vm ?_
 clear hF; intro w hF hE
 replace hrow:=fun q hq=>And.intro ((hE.block q.1 (Ra (hrow q hq).1) (by have:=(hrow q hq).2; simp only [List.mem_singleton]; omega)).trans (hrow q hq).1) (hrow q hq).2
 clear hE
 refine Ca (Wb O) (Ea ?_)
 refine Ub (Rb (Sa (Ve O (l:=[.slice (P1) ((Uf x).length) (q1),.slice (P2) ((Hh x).length) (q2)]) O isAgg56 sizeOf56 O (hF.cellsAll 0 O) (v:=.int .i64 0) O) ?_))
 refine ⟨P1,q1,P2,q2,O,?_,?_,hF.same⟩
 have:=Tb.rows (w0:=w0) (w:=w) (ds:=(Uf x).map Wp) (by rw [List.length_map]; exact hL) (fun q hq=>hrow q (by simp [hq])) hBl (Hy (fun s hs=>by have:=ZH (Qg x) (Nat.le_trans (Hq x) hm) s hs; omega))
 rw [List.length_map] at this
 exact this
 have:=Tb.rows (w0:=w0) (w:=w) (ds:=(Hh x).map Ug) (by rw [List.length_map]; exact hN) (fun q hq=>hrow q (by simp [hq])) hBl (On (fun s hs=>by obtain ⟨i,hi,rfl⟩:=List.getElem_of_mem hs; have h1:=(Wv hx hsz).2.2 i hi hi; have:=J6 x; have:=Jk hx; omega))
 rw [List.length_map] at this
 exact this
end Go.Scarf
namespace Go.Scarf
open Go.RowKit Go.Proofs Go.Proofs.Tryz
end Go.Scarf
