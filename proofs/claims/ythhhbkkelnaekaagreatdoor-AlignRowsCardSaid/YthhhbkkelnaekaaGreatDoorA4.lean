/- A part of the proof. -/
import Derived.Test.YthhhbkkelnaekaaGreatDoorA1
set_option linter.all false
set_option maxHeartbeats 8000000
set_option maxRecDepth 10000
namespace Go.Scarf
open Go.RowKit Go.Proofs Go.Proofs.Tryz
def Vh (M x:Nat) (q:Nat→Nat):List Value:=(List.range x).map fun i=>Value.slice (some ⟨q i,0,none⟩) M M
theorem Te (M x b:Nat) (q:Nat→Nat):Vh M x q++[.slice (some ⟨b,0,none⟩) M M]=Vh M (x+1) (Vg q x b):=by
  unfold Vh
  rw [List.range_succ,List.map_append]
  congr 1
  · exact List.map_congr_left fun i hi=>by have:=List.mem_range.1 hi; simp [Vg,show ¬i=x by omega]
  · simp [Vg]
theorem RowsOk.grow {w0 w w':World} {i m:Nat} {q:Nat→Nat} {ids ids' E:List Nat} (h:RowsOk w0 w i m q ids) (hs:Same E w w') (he:∀ b∈E,b∈ids) (hi:∀ b∈ids',b∈ids∨w.heap.size≤b):RowsOk w0 w' i m q ids' :=
  ⟨(h.step hs he).row,h.inj,fun k hk=>⟨(h.new k hk).1,fun hm=>(hi _ hm).elim (h.new k hk).2 fun h2=>by have:=Ra (h.row k hk); omega⟩⟩
structure R0 (w0 w:World) (x M:Nat) (q r:Nat→Nat) (ids:List Nat):Prop where
  rq:RowsOk w0 w x M q ids
  rr:RowsOk w0 w x M r ids
  ne:∀ i j,i < x→j < x→q i≠r j
section
variable {w0 w w':World} {x M:Nat} {q r:Nat→Nat} {ids ids' E:List Nat}
theorem R0.step (h:R0 w0 w x M q r ids) (hs:Same E w w') (he:∀ b∈E,b∈ids):R0 w0 w' x M q r ids:=⟨h.rq.step hs he,h.rr.step hs he,h.ne⟩
theorem R0.grow (h:R0 w0 w x M q r ids) (hs:Same E w w') (he:∀ b∈E,b∈ids) (hi:∀ b∈ids',b∈ids∨w.heap.size≤b):R0 w0 w' x M q r ids':=⟨h.rq.grow hs he hi,h.rr.grow hs he hi,h.ne⟩
theorem R0.put {bp br:Nat} (h:R0 w0 w x M q r ids) (hp:w.heap[bp]? = some (.cells (Mb M fun _=>0) 3)) (hr:w.heap[br]? = some (.cells (Mb M fun _=>0) 3)) (h1:w0.heap.size≤bp) (h2:w0.heap.size≤br) (h3:bp∉ids) (h4:br∉ids) (h5:bp≠br)
    (h6:∀ k,k < x→q k≠bp∧r k≠bp) (h7:∀ k,k < x→q k≠br∧r k≠br):R0 w0 w (x+1) M (Vg q x bp) (Vg r x br) ids:=by
  refine ⟨h.rq.put hp h1 h3 (fun k hk=>(h6 k hk).1),h.rr.put hr h2 h4 (fun k hk=>(h7 k hk).2),fun i j hi hj=>?_⟩
  have e1:∀ k,Vg q x bp k=if k=x then bp else q k:=fun _=>rfl
  have e2:∀ k,Vg r x br k=if k=x then br else r k:=fun _=>rfl
  rw [e1,e2]
  split <;> split
  · exact h5
  · exact fun e=>(h6 j U).2 e.symm
  · exact (h7 i U).1
  · exact h.ne i j U U
theorem FR.apart {Ds:List Nat} {pre rest:List (Nat × Obj)} (hF:FR w0 Ds (pre++rest) w) {i b:Nat} {o:Obj} (hi:pre[i]? = some (b,o)):b∉rest.map (·.1):=fun h=>by
  obtain ⟨z,hz,e⟩:=List.mem_map.1 h
  exact (List.pairwise_append.1 hF.desc).2.2 (b,o) (List.mem_of_getElem? hi) z hz e
theorem SlB.one {e n c:Nat} {A:Option Addr} {xs:List Value} {sb:List (Nat × Obj)} (h:SlB e 1 A n c xs sb) (hn:0 < n):∃ g cur,A=some ⟨g,0,none⟩∧sb=[(g,.cells cur e)]∧∀ i (hi:i < xs.length),cur[i]? = some xs[i]:=by
  obtain ⟨hl,h⟩:=h
  rcases h with ⟨h0,-,-⟩ | ⟨g,cur,hA,hsb,-,-,hsz,ht⟩
  · omega
  · refine ⟨g, cur, hA, hsb, fun i hi => ?_⟩
    subst ht
    rw [List.getElem_take]
    simp only [List.length_take] at hi
    rw [Array.getElem_toList,Array.getElem?_eq_getElem]
end
section
variable {la lb:List TreeN} {P P' R:Nat→Nat→Int} {i j:Nat}
def RD (la lb:List TreeN) (R:Nat→Nat→Int) (i j:Nat):Prop:=∀ a b,a≤la.length→b≤lb.length→(la.length - a < i∨(la.length - a=i∧lb.length - b < j))→R a b=((al Tl pN (la.drop a) (lb.drop b):Nat):Int)
def PD (la lb:List TreeN) (P:Nat→Nat→Int) (i j:Nat):Prop:=∀ a b (h1:a < la.length) (h2:b < lb.length),(la.length - a < i∨(la.length - a=i∧lb.length - b < j))→P a b=((pN la[a] lb[b]:Nat):Int)
theorem RD.step (h:RD la lb R i j) (hi:i≤la.length) (hj:j≤lb.length):RD la lb (Hj R (la.length - i) (lb.length - j) ((al Tl pN (la.drop (la.length - i)) (lb.drop (lb.length - j)):Nat):Int)) i (j+1):=fun a b ha hb hc=>by
  by_cases e:a=la.length - i∧b=lb.length - j
  · obtain ⟨rfl,rfl⟩:=e; exact Fk _ _ _ _
  · rw [Ns e]; exact h a b ha hb U
theorem RD.row (h:RD la lb R i (lb.length+1)):RD la lb R (i+1) 0:=fun a b ha hb hc=>h a b ha hb U
theorem PD.step (h:PD la lb P i j) (hn:∀ (h1:la.length - i < la.length) (h2:lb.length - j < lb.length),P' (la.length - i) (lb.length - j)=((pN la[la.length - i] lb[lb.length - j]:Nat):Int)) (ho:∀ a b,¬(a=la.length - i∧b=lb.length - j)→P' a b=P a b):PD la lb P' i (j+1):=fun a b ha hb hc=>by
  by_cases e:a=la.length - i∧b=lb.length - j
  · obtain ⟨rfl,rfl⟩:=e; exact hn ha hb
  · rw [ho a b e]; exact h a b ha hb U
theorem PD.row (h:PD la lb P i (lb.length+1)):PD la lb P (i+1) 0:=fun a b ha hb hc=>h a b ha hb U
end
theorem NO (S S':Nat→Prop) (w0:World) (la lb:List TreeN) (Aa Ab:Option Addr) (k1 k2:Nat) (hLa:Rep S w0 (.slice (la.map Dm)) [.slice Aa la.length k1]) (hLb:Rep S' w0 (.slice (lb.map Dm)) [.slice Ab lb.length k2]) (hll:la.length≤64∧lb.length≤64) (hRa:∀ x∈la,Xh x.1 x.2) (hRb:∀ x∈lb,Xh x.1 x.2) (hla:∀ x∈la,Tl x≤512) (hlb:∀ x∈lb,Tl x≤512):Calls prog 17 #[.slice Aa la.length k1,.slice Ab lb.length k2] w0 (De fun v w'=>∃ (cb pb rb kP kR:Nat) (q r:Nat→Nat) (P R:Nat→Nat→Int),v=.pointer (some ⟨cb,0,none⟩)∧Ck w' w0.heap.size cb pb rb la lb Aa Ab k1 k2 kP kR q r P R∧(∀ a b,a≤la.length→b≤lb.length→R a b=((al Tl pN (la.drop a) (lb.drop b):Nat):Int))∧(∀ a b (h1:a < la.length) (h2:b < lb.length),P a b=((pN la[a] lb[b]:Nat):Int))∧Same [] w0 w'):=by
 refine Ka func17 O ntmps17 Kb (Ee _ _) ?_
 have hF:=FR.start w0 []
 refine Ia (Ca (I_ O) (Bc (Ca (Yd O) (Ca (Yd O) ?_))))
 refine Ja (w':=w0) (v:=.agg #[.slice Aa la.length k1,.slice Ab lb.length k2,.slice none 0 0,.slice none 0 0]) Qb ?_
 refine Bh hF O ?_
 clear hF; rintro b1 w hb1 hF -
 refine Ca (I_ O) (Ea (Ha (Ia (Ca (Yd O) (Ca (Df underlying47 O) (Ca (If (((la.length+1:Nat):Int)) O O) (Ca (Va O) (Ea (Ta ?_)))))))))
 refine Lc (fun μ σ w=>∃ (x:Nat),∃ (AP:Option Addr),∃ (kP:Nat),∃ (sp:List (Nat × Obj)),∃ (AR:Option Addr),∃ (kR:Nat),∃ (sr:List (Nat × Obj)),∃ (q:Nat→Nat),∃ (r:Nat→Nat),μ=la.length+1 - x∧(x≤la.length+1)∧(SlB 42 1 AP x kP (Vh (lb.length+1) x q) sp)∧(SlB 42 1 AR x kR (Vh (lb.length+1) x r) sr)∧(R0 w0 w (x) (lb.length+1) q r ([b1]++(sp.map (·.1)++sr.map (·.1))))∧AllEq σ [(0,.slice Aa la.length k1),(1,.slice Ab lb.length k2),(5,.pointer (some ⟨b1,0,none⟩)),(14,.int .i64 (((la.length+1:Nat):Int))),(15,.int .i64 ((x:Int)))]∧FR w0 [] ([(b1,.cells #[.slice Aa la.length k1,.slice Ab lb.length k2,.slice AP x kP,.slice AR x kR] 53)]++(sp++(sr++[]))) w) _ ⟨0,none,0,[],none,0,[],fun _=>0,fun _=>0,O,(Nat.zero_le _),(SlB.nil _ _),(SlB.nil _ _),(⟨⟨fun k hk=>absurd hk U,fun k l hk=>absurd hk U,fun k hk=>absurd hk U⟩,⟨fun k hk=>absurd hk U,fun k l hk=>absurd hk U,fun k hk=>absurd hk U⟩,fun i j hi=>absurd hi U⟩),Am,hF⟩ ?_
 clear hF; rintro μ σ w ⟨x,AP,kP,sp,AR,kR,sr,q,r,rfl,hx,hSp,hSr,hW,hs,hF⟩
 refine Cg.slots hs ?_
 clear hs; intro σ
 refine Ia (Ca (Yg O O) (Ea (Ha ?_)))
 refine Yb O O (fun hc0=>?_) (fun hc0=>?_)
 refine Qa (Ga ?_)
 have hq0:=hx
 refine Ha ?_
 refine Qf (fun σ w=>∃ (AS:Option Addr),∃ (kS:Nat),∃ (sp2:List (Nat × Obj)),∃ (AT:Option Addr),∃ (kT:Nat),∃ (sr2:List (Nat × Obj)),∃ (q2:Nat→Nat),∃ (r2:Nat→Nat),(SlB 42 1 AS (x+1) kS (Vh (lb.length+1) (x+1) q2) sp2)∧(SlB 42 1 AT (x+1) kT (Vh (lb.length+1) (x+1) r2) sr2)∧(R0 w0 w (x+1) (lb.length+1) q2 r2 ([b1]++(sp2.map (·.1)++sr2.map (·.1))))∧AllEq σ [(0,.slice Aa la.length k1),(1,.slice Ab lb.length k2),(5,.pointer (some ⟨b1,0,none⟩)),(14,.int .i64 (((la.length+1:Nat):Int))),(15,.int .i64 ((x:Int)))]∧FR w0 [] ([(b1,.cells #[.slice Aa la.length k1,.slice Ab lb.length k2,.slice (AS) (x+1) (kS),.slice (AT) (x+1) (kT)] 53)]++(sp2++(sr2++[]))) w) ?_ ?_
 refine Ta ?_
 refine OS [27,24] [0,1,2,3,4,6,7,8,12,13,14,16,17,18] (.free 5 (.free 15 (.alt 9 (.alt 10 (.alt 11 (.act 19 (.act 20 (.act 21 (.act 22 (.free 23 (.act 24 (.act 25 (.free 26 (.act 27 .nil))))))))) (.act 19 (.alt 11 (.act 20 (.act 21 (.act 22 (.free 23 (.act 24 (.act 25 (.free 26 (.act 27 .nil)))))))) (.act 20 (.act 11 (.act 21 (.act 22 (.free 23 (.act 24 (.act 25 (.free 26 (.act 27 .nil)))))))))))) (.act 19 (.alt 10 (.alt 11 (.act 20 (.act 21 (.act 22 (.free 23 (.act 24 (.act 25 (.free 26 (.act 27 .nil)))))))) (.act 20 (.act 11 (.act 21 (.act 22 (.free 23 (.act 24 (.act 25 (.free 26 (.act 27 .nil)))))))))) (.act 20 (.act 10 (.act 11 (.act 21 (.act 22 (.free 23 (.act 24 (.act 25 (.free 26 (.act 27 .nil))))))))))))) (.act 19 (.alt 9 (.alt 10 (.alt 11 (.act 20 (.act 21 (.act 22 (.free 23 (.act 24 (.act 25 (.free 26 (.act 27 .nil)))))))) (.act 20 (.act 11 (.act 21 (.act 22 (.free 23 (.act 24 (.act 25 (.free 26 (.act 27 .nil)))))))))) (.act 20 (.act 10 (.act 11 (.act 21 (.act 22 (.free 23 (.act 24 (.act 25 (.free 26 (.act 27 .nil))))))))))) (.act 20 (.act 9 (.act 10 (.act 11 (.act 21 (.act 22 (.free 23 (.act 24 (.act 25 (.free 26 (.act 27 .nil)))))))))))))))) hF ?_
 clear hF; intro w hF hE
 replace hW:=hW.step hE Ma
 clear hE
 refine TH O (Ue O) (TH O (Ue O) (TH O (Ue O) (TH O (Gg O) (TH O (Ec Hk O) (TH O (Yd O) (TH O (Df underlying47 O) (TH O (If (((lb.length+1:Nat):Int)) O O) (TH O (Ue O) (TH O (Gg O) (TH O (Ec Ci O) (TH O (Yd O) (TH O (Df underlying47 O) (TH O (If (((lb.length+1:Nat):Int)) O O) ?_)))))))))))))
 refine YY ?_
 refine ⟨fun wq=>FR w0 [] [(b1,.cells #[.slice Aa la.length k1,.slice Ab lb.length k2,.slice AP x kP,.slice AR x kR] 53)] wq,hF.sub (.cons_cons _ (List.nil_sublist _)),?_⟩
 refine Uk O (Mf isAgg37 O C0 0 O O) (Uk O (Mf isAgg37 O C0 0 O O) ?_)
 refine Mk ?_ ?_
 refine Cm O (v:=fun b=>.slice (some ⟨b,0,none⟩) (lb.length+1) (lb.length+1)) (o:=.cells (Mb (lb.length+1) fun _=>0) 3) hF (Mj Wh Qb O O U) ?_
 clear hF; intro b2 w hb2 hF hE
 have hnb2:∀ k,k < x→q k≠b2∧r k≠b2:=fun k hk=>by have h1:=Ra (hW.rq.row k hk); have h2:=Ra (hW.rr.row k hk); constructor <;> omega
 replace hW:=hW.step hE Ma
 clear hE
 refine ⟨hF.sub (.cons _ (.cons_cons _ (List.nil_sublist _))),?_⟩
 refine Mk ?_ ?_
 refine Ge 1 O hF (Za (cs:=#[.slice (some ⟨b2,0,none⟩) (lb.length+1) (lb.length+1)]) underlying37 sizeOf42 zeroValue42 Ua Ua Qb) ?_
 clear hF; intro b3 w hb3 hF hE
 have hnb3:∀ k,k < x→q k≠b3∧r k≠b3:=fun k hk=>by have h1:=Ra (hW.rq.row k hk); have h2:=Ra (hW.rr.row k hk); constructor <;> omega
 replace hW:=hW.step hE Ma
 clear hE
 refine ⟨hF.sub (.cons _ (.cons _ (.cons_cons _ (List.nil_sublist _)))),?_⟩
 refine Mk ?_ ?_
 refine Rc [(b3,.cells #[.slice (some ⟨b2,0,none⟩) (lb.length+1) (lb.length+1)] 42),(b2,.cells (Mb (lb.length+1) (fun _=>0)) 3),(b1,.cells #[.slice Aa la.length k1,.slice Ab lb.length k2,.slice AP x kP,.slice AR x kR] 53)] (sr++[]) (news:=[.slice (some ⟨b2,0,none⟩) (lb.length+1) (lb.length+1)]) (len':=x+1) (ys:=Vh (lb.length+1) (x+1) (Vg q x b2)) O Zk hF hSp O O (O) (fun _=>⟨_,O,Xb (hF.cellsAll 0 O)⟩) (by simp [Value.oneCell']) (by simp only [maxLen]; omega) (O) (Te _ _ _ _) U ?_
 clear hF; intro A0 c0 p_0 w hS0_p hF hE hnew
 replace hW:=hW.grow (ids':=[b1]++(p_0.map (·.1)++sr.map (·.1))) hE (by grind) (by grind)
 clear hE hnew
 refine ⟨hF.sub (.cons _ (.cons _ (.cons_cons _ (List.nil_sublist _)))),?_⟩
 refine Cm O (v:=fun b=>.slice (some ⟨b,0,none⟩) (lb.length+1) (lb.length+1)) (o:=.cells (Mb (lb.length+1) fun _=>0) 3) hF (Mj Wh Qb O O U) ?_
 clear hF; intro b4 w hb4 hF hE
 have hnb4:∀ k,k < x→q k≠b4∧r k≠b4:=fun k hk=>by have h1:=Ra (hW.rq.row k hk); have h2:=Ra (hW.rr.row k hk); constructor <;> omega
 replace hW:=hW.step hE Ma
 clear hE
 refine ⟨hF.sub (.cons _ (.cons _ (.cons _ (.cons_cons _ (List.nil_sublist _))))),?_⟩
 refine Ge 1 O hF (Za (cs:=#[.slice (some ⟨b4,0,none⟩) (lb.length+1) (lb.length+1)]) underlying37 sizeOf42 zeroValue42 Ua Ua Qb) ?_
 clear hF; intro b5 w hb5 hF hE
 have hnb5:∀ k,k < x→q k≠b5∧r k≠b5:=fun k hk=>by have h1:=Ra (hW.rq.row k hk); have h2:=Ra (hW.rr.row k hk); constructor <;> omega
 replace hW:=hW.step hE Ma
 clear hE
 refine ⟨hF.sub (.cons _ (.cons _ (.cons _ (.cons _ (.cons_cons _ (List.nil_sublist _)))))),?_⟩
 refine Rc ([(b5,.cells #[.slice (some ⟨b4,0,none⟩) (lb.length+1) (lb.length+1)] 42),(b4,.cells (Mb (lb.length+1) (fun _=>0)) 3),(b3,.cells #[.slice (some ⟨b2,0,none⟩) (lb.length+1) (lb.length+1)] 42),(b2,.cells (Mb (lb.length+1) (fun _=>0)) 3),(b1,.cells #[.slice Aa la.length k1,.slice Ab lb.length k2,.slice AP x kP,.slice AR x kR] 53)]++p_0) [] (news:=[.slice (some ⟨b4,0,none⟩) (lb.length+1) (lb.length+1)]) (len':=x+1) (ys:=Vh (lb.length+1) (x+1) (Vg r x b4)) O Zk hF hSr O O (O) (fun _=>⟨_,O,Xb (hF.cellsAll 0 O)⟩) (by simp [Value.oneCell']) (by simp only [maxLen]; omega) (O) (Te _ _ _ _) U ?_
 clear hF; intro A1 c1 r_1 w hS1_r hF hE hnew
 replace hW:=hW.grow (ids':=[b1]++(p_0.map (·.1)++r_1.map (·.1))) hE (by grind) (by grind)
 clear hE hnew
 refine ⟨hF.sub (.cons _ (.cons _ (.cons _ (.cons _ (.cons_cons _ (List.nil_sublist _)))))),?_⟩
 refine Xe O (v:=.pointer (some ⟨b1,0,none⟩)) (Hd O) (hF.sub (.cons _ (.cons _ (.cons _ (.cons _ (.cons_cons _ (List.nil_sublist _))))))) ?_
 refine Db O (Ec Hk O) ?_
 refine Ad O 4 (l:=[.slice (A0) (x+1) (c0)]) (cs':=#[.slice Aa la.length k1,.slice Ab lb.length k2,.slice (A0) (x+1) (c0),.slice AR x kR]) hF sizeOf37 O (v:=.slice (A0) (x+1) (c0)) O O Ed O Kb O ?_
 clear hF; intro w hF hE
 replace hW:=hW.step hE Ma
 clear hE
 replace hF:FR w0 [] ([(b5,.cells #[.slice (some ⟨b4,0,none⟩) (lb.length+1) (lb.length+1)] 42),(b4,.cells (Mb (lb.length+1) (fun _=>0)) 3),(b3,.cells #[.slice (some ⟨b2,0,none⟩) (lb.length+1) (lb.length+1)] 42),(b2,.cells (Mb (lb.length+1) (fun _=>0)) 3),(b1,.cells #[.slice Aa la.length k1,.slice Ab lb.length k2,.slice (A0) (x+1) (c0),.slice AR x kR] 53)]++(p_0++(r_1++[]))) w:=hF
 refine Xe O (v:=.pointer (some ⟨b1,0,none⟩)) (Hd O) (trivial) ?_
 refine Db O (Ec Ci O) ?_
 refine Ad O 4 (l:=[.slice (A1) (x+1) (c1)]) (cs':=#[.slice Aa la.length k1,.slice Ab lb.length k2,.slice (A0) (x+1) (c0),.slice (A1) (x+1) (c1)]) hF sizeOf37 O (v:=.slice (A1) (x+1) (c1)) O O Ed O Kb O ?_
 clear hF; intro w hF hE
 replace hW:=hW.step hE Ma
 clear hE
 replace hF:FR w0 [] ([(b5,.cells #[.slice (some ⟨b4,0,none⟩) (lb.length+1) (lb.length+1)] 42),(b4,.cells (Mb (lb.length+1) (fun _=>0)) 3),(b3,.cells #[.slice (some ⟨b2,0,none⟩) (lb.length+1) (lb.length+1)] 42),(b2,.cells (Mb (lb.length+1) (fun _=>0)) 3),(b1,.cells #[.slice Aa la.length k1,.slice Ab lb.length k2,.slice (A0) (x+1) (c0),.slice (A1) (x+1) (c1)] 53)]++(p_0++(r_1++[]))) w:=hF
 refine Mc (Eb ?_)
 exact Ib ⟨(A0),(c0),(p_0),(A1),(c1),(r_1),(Vg q x b2),(Vg r x b4),(hS0_p),(hS1_r),(hW.put (hF.heap (i:=3) O) (hF.heap (i:=1) O) (hF.ge (i:=3) O) (hF.ge (i:=1) O) (by have h:=FR.apart (pre:=[_,_,_,_]) (rest:=[_]++(p_0++(r_1++[]))) (i:=3) hF O; simpa using h) (by have h:=FR.apart (pre:=[_,_,_,_]) (rest:=[_]++(p_0++(r_1++[]))) (i:=1) hF O; simpa using h) (Wi hF.desc (i:=3) (j:=1) O O Ua) hnb2 hnb4),Am,(((((hF.front 4 O).erase 1).erase 1).erase 1).erase 1)⟩
 refine Cm O (v:=fun b=>.slice (some ⟨b,0,none⟩) (lb.length+1) (lb.length+1)) (o:=.cells (Mb (lb.length+1) fun _=>0) 3) hF (Mj Wh Qb O O U) ?_
 clear hF; intro b6 w hb6 hF hE
 have hnb6:∀ k,k < x→q k≠b6∧r k≠b6:=fun k hk=>by have h1:=Ra (hW.rq.row k hk); have h2:=Ra (hW.rr.row k hk); constructor <;> omega
 replace hW:=hW.step hE Ma
 clear hE
 refine ⟨hF.sub (.cons _ (.cons _ (.cons _ (.cons_cons _ (List.nil_sublist _))))),?_⟩
 refine Mk ?_ ?_
 refine Rc [(b6,.cells (Mb (lb.length+1) (fun _=>0)) 3),(b3,.cells #[.slice (some ⟨b2,0,none⟩) (lb.length+1) (lb.length+1)] 42),(b2,.cells (Mb (lb.length+1) (fun _=>0)) 3),(b1,.cells #[.slice Aa la.length k1,.slice Ab lb.length k2,.slice AP x kP,.slice AR x kR] 53)] (sr++[]) (news:=[.slice (some ⟨b2,0,none⟩) (lb.length+1) (lb.length+1)]) (len':=x+1) (ys:=Vh (lb.length+1) (x+1) (Vg q x b2)) O Zk hF hSp O O (O) (fun _=>⟨_,O,Xb (hF.cellsAll 1 O)⟩) (by simp [Value.oneCell']) (by simp only [maxLen]; omega) (O) (Te _ _ _ _) U ?_
 clear hF; intro A2 c2 p_2 w hS2_p hF hE hnew
 replace hW:=hW.grow (ids':=[b1]++(p_2.map (·.1)++sr.map (·.1))) hE (by grind) (by grind)
 clear hE hnew
 refine ⟨hF.sub (.cons _ (.cons _ (.cons _ (.cons_cons _ (List.nil_sublist _))))),?_⟩
 refine Ge 1 O hF (Za (cs:=#[.slice (some ⟨b6,0,none⟩) (lb.length+1) (lb.length+1)]) underlying37 sizeOf42 zeroValue42 Ua Ua Qb) ?_
 clear hF; intro b7 w hb7 hF hE
 have hnb7:∀ k,k < x→q k≠b7∧r k≠b7:=fun k hk=>by have h1:=Ra (hW.rq.row k hk); have h2:=Ra (hW.rr.row k hk); constructor <;> omega
 replace hW:=hW.step hE Ma
 clear hE
 refine ⟨hF.sub (.cons _ (.cons _ (.cons _ (.cons _ (.cons_cons _ (List.nil_sublist _)))))),?_⟩
 refine Rc ([(b7,.cells #[.slice (some ⟨b6,0,none⟩) (lb.length+1) (lb.length+1)] 42),(b6,.cells (Mb (lb.length+1) (fun _=>0)) 3),(b3,.cells #[.slice (some ⟨b2,0,none⟩) (lb.length+1) (lb.length+1)] 42),(b2,.cells (Mb (lb.length+1) (fun _=>0)) 3),(b1,.cells #[.slice Aa la.length k1,.slice Ab lb.length k2,.slice AP x kP,.slice AR x kR] 53)]++p_2) [] (news:=[.slice (some ⟨b6,0,none⟩) (lb.length+1) (lb.length+1)]) (len':=x+1) (ys:=Vh (lb.length+1) (x+1) (Vg r x b6)) O Zk hF hSr O O (O) (fun _=>⟨_,O,Xb (hF.cellsAll 0 O)⟩) (by simp [Value.oneCell']) (by simp only [maxLen]; omega) (O) (Te _ _ _ _) U ?_
 clear hF; intro A3 c3 r_3 w hS3_r hF hE hnew
 replace hW:=hW.grow (ids':=[b1]++(p_2.map (·.1)++r_3.map (·.1))) hE (by grind) (by grind)
 clear hE hnew
 refine ⟨hF.sub (.cons _ (.cons _ (.cons _ (.cons _ (.cons_cons _ (List.nil_sublist _)))))),?_⟩
 refine Xe O (v:=.pointer (some ⟨b1,0,none⟩)) (Hd O) (hF.sub (.cons _ (.cons _ (.cons _ (.cons _ (.cons_cons _ (List.nil_sublist _))))))) ?_
 refine Db O (Ec Hk O) ?_
 refine Ad O 4 (l:=[.slice (A2) (x+1) (c2)]) (cs':=#[.slice Aa la.length k1,.slice Ab lb.length k2,.slice (A2) (x+1) (c2),.slice AR x kR]) hF sizeOf37 O (v:=.slice (A2) (x+1) (c2)) O O Ed O Kb O ?_
 clear hF; intro w hF hE
 replace hW:=hW.step hE Ma
 clear hE
 replace hF:FR w0 [] ([(b7,.cells #[.slice (some ⟨b6,0,none⟩) (lb.length+1) (lb.length+1)] 42),(b6,.cells (Mb (lb.length+1) (fun _=>0)) 3),(b3,.cells #[.slice (some ⟨b2,0,none⟩) (lb.length+1) (lb.length+1)] 42),(b2,.cells (Mb (lb.length+1) (fun _=>0)) 3),(b1,.cells #[.slice Aa la.length k1,.slice Ab lb.length k2,.slice (A2) (x+1) (c2),.slice AR x kR] 53)]++(p_2++(r_3++[]))) w:=hF
 refine Xe O (v:=.pointer (some ⟨b1,0,none⟩)) (Hd O) (trivial) ?_
 refine Db O (Ec Ci O) ?_
 refine Ad O 4 (l:=[.slice (A3) (x+1) (c3)]) (cs':=#[.slice Aa la.length k1,.slice Ab lb.length k2,.slice (A2) (x+1) (c2),.slice (A3) (x+1) (c3)]) hF sizeOf37 O (v:=.slice (A3) (x+1) (c3)) O O Ed O Kb O ?_
 clear hF; intro w hF hE
 replace hW:=hW.step hE Ma
 clear hE
 replace hF:FR w0 [] ([(b7,.cells #[.slice (some ⟨b6,0,none⟩) (lb.length+1) (lb.length+1)] 42),(b6,.cells (Mb (lb.length+1) (fun _=>0)) 3),(b3,.cells #[.slice (some ⟨b2,0,none⟩) (lb.length+1) (lb.length+1)] 42),(b2,.cells (Mb (lb.length+1) (fun _=>0)) 3),(b1,.cells #[.slice Aa la.length k1,.slice Ab lb.length k2,.slice (A2) (x+1) (c2),.slice (A3) (x+1) (c3)] 53)]++(p_2++(r_3++[]))) w:=hF
 refine Mc (Eb ?_)
 exact Ib ⟨(A2),(c2),(p_2),(A3),(c3),(r_3),(Vg q x b2),(Vg r x b6),(hS2_p),(hS3_r),(hW.put (hF.heap (i:=3) O) (hF.heap (i:=1) O) (hF.ge (i:=3) O) (hF.ge (i:=1) O) (by have h:=FR.apart (pre:=[_,_,_,_]) (rest:=[_]++(p_2++(r_3++[]))) (i:=3) hF O; simpa using h) (by have h:=FR.apart (pre:=[_,_,_,_]) (rest:=[_]++(p_2++(r_3++[]))) (i:=1) hF O; simpa using h) (Wi hF.desc (i:=3) (j:=1) O O Ua) hnb2 hnb6),Am,(((((hF.front 4 O).erase 1).erase 1).erase 1).erase 1)⟩
 refine Ge 1 O hF (Za (cs:=#[.slice (some ⟨b6,0,none⟩) (lb.length+1) (lb.length+1)]) underlying37 sizeOf42 zeroValue42 Ua Ua Qb) ?_
 clear hF; intro b8 w hb8 hF hE
 have hnb8:∀ k,k < x→q k≠b8∧r k≠b8:=fun k hk=>by have h1:=Ra (hW.rq.row k hk); have h2:=Ra (hW.rr.row k hk); constructor <;> omega
 replace hW:=hW.step hE Ma
 clear hE
 refine ⟨hF.sub (.cons _ (.cons _ (.cons _ (.cons _ (.cons_cons _ (List.nil_sublist _)))))),?_⟩
 refine Rc [(b8,.cells #[.slice (some ⟨b6,0,none⟩) (lb.length+1) (lb.length+1)] 42),(b6,.cells (Mb (lb.length+1) (fun _=>0)) 3),(b3,.cells #[.slice (some ⟨b2,0,none⟩) (lb.length+1) (lb.length+1)] 42),(b2,.cells (Mb (lb.length+1) (fun _=>0)) 3),(b1,.cells #[.slice Aa la.length k1,.slice Ab lb.length k2,.slice AP x kP,.slice AR x kR] 53)] (sr++[]) (news:=[.slice (some ⟨b2,0,none⟩) (lb.length+1) (lb.length+1)]) (len':=x+1) (ys:=Vh (lb.length+1) (x+1) (Vg q x b2)) O Zk hF hSp O O (O) (fun _=>⟨_,O,Xb (hF.cellsAll 2 O)⟩) (by simp [Value.oneCell']) (by simp only [maxLen]; omega) (O) (Te _ _ _ _) U ?_
 clear hF; intro A4 c4 p_4 w hS4_p hF hE hnew
 replace hW:=hW.grow (ids':=[b1]++(p_4.map (·.1)++sr.map (·.1))) hE (by grind) (by grind)
 clear hE hnew
 refine ⟨hF.sub (.cons _ (.cons _ (.cons _ (.cons _ (.cons_cons _ (List.nil_sublist _)))))),?_⟩
 refine Rc ([(b8,.cells #[.slice (some ⟨b6,0,none⟩) (lb.length+1) (lb.length+1)] 42),(b6,.cells (Mb (lb.length+1) (fun _=>0)) 3),(b3,.cells #[.slice (some ⟨b2,0,none⟩) (lb.length+1) (lb.length+1)] 42),(b2,.cells (Mb (lb.length+1) (fun _=>0)) 3),(b1,.cells #[.slice Aa la.length k1,.slice Ab lb.length k2,.slice AP x kP,.slice AR x kR] 53)]++p_4) [] (news:=[.slice (some ⟨b6,0,none⟩) (lb.length+1) (lb.length+1)]) (len':=x+1) (ys:=Vh (lb.length+1) (x+1) (Vg r x b6)) O Zk hF hSr O O (O) (fun _=>⟨_,O,Xb (hF.cellsAll 0 O)⟩) (by simp [Value.oneCell']) (by simp only [maxLen]; omega) (O) (Te _ _ _ _) U ?_
 clear hF; intro A5 c5 r_5 w hS5_r hF hE hnew
 replace hW:=hW.grow (ids':=[b1]++(p_4.map (·.1)++r_5.map (·.1))) hE (by grind) (by grind)
 clear hE hnew
 refine ⟨hF.sub (.cons _ (.cons _ (.cons _ (.cons _ (.cons_cons _ (List.nil_sublist _)))))),?_⟩
 refine Xe O (v:=.pointer (some ⟨b1,0,none⟩)) (Hd O) (hF.sub (.cons _ (.cons _ (.cons _ (.cons _ (.cons_cons _ (List.nil_sublist _))))))) ?_
 refine Db O (Ec Hk O) ?_
 refine Ad O 4 (l:=[.slice (A4) (x+1) (c4)]) (cs':=#[.slice Aa la.length k1,.slice Ab lb.length k2,.slice (A4) (x+1) (c4),.slice AR x kR]) hF sizeOf37 O (v:=.slice (A4) (x+1) (c4)) O O Ed O Kb O ?_
 clear hF; intro w hF hE
 replace hW:=hW.step hE Ma
 clear hE
 replace hF:FR w0 [] ([(b8,.cells #[.slice (some ⟨b6,0,none⟩) (lb.length+1) (lb.length+1)] 42),(b6,.cells (Mb (lb.length+1) (fun _=>0)) 3),(b3,.cells #[.slice (some ⟨b2,0,none⟩) (lb.length+1) (lb.length+1)] 42),(b2,.cells (Mb (lb.length+1) (fun _=>0)) 3),(b1,.cells #[.slice Aa la.length k1,.slice Ab lb.length k2,.slice (A4) (x+1) (c4),.slice AR x kR] 53)]++(p_4++(r_5++[]))) w:=hF
 refine Xe O (v:=.pointer (some ⟨b1,0,none⟩)) (Hd O) (trivial) ?_
 refine Db O (Ec Ci O) ?_
 refine Ad O 4 (l:=[.slice (A5) (x+1) (c5)]) (cs':=#[.slice Aa la.length k1,.slice Ab lb.length k2,.slice (A4) (x+1) (c4),.slice (A5) (x+1) (c5)]) hF sizeOf37 O (v:=.slice (A5) (x+1) (c5)) O O Ed O Kb O ?_
 clear hF; intro w hF hE
 replace hW:=hW.step hE Ma
 clear hE
 replace hF:FR w0 [] ([(b8,.cells #[.slice (some ⟨b6,0,none⟩) (lb.length+1) (lb.length+1)] 42),(b6,.cells (Mb (lb.length+1) (fun _=>0)) 3),(b3,.cells #[.slice (some ⟨b2,0,none⟩) (lb.length+1) (lb.length+1)] 42),(b2,.cells (Mb (lb.length+1) (fun _=>0)) 3),(b1,.cells #[.slice Aa la.length k1,.slice Ab lb.length k2,.slice (A4) (x+1) (c4),.slice (A5) (x+1) (c5)] 53)]++(p_4++(r_5++[]))) w:=hF
 refine Mc (Eb ?_)
 exact Ib ⟨(A4),(c4),(p_4),(A5),(c5),(r_5),(Vg q x b2),(Vg r x b6),(hS4_p),(hS5_r),(hW.put (hF.heap (i:=3) O) (hF.heap (i:=1) O) (hF.ge (i:=3) O) (hF.ge (i:=1) O) (by have h:=FR.apart (pre:=[_,_,_,_]) (rest:=[_]++(p_4++(r_5++[]))) (i:=3) hF O; simpa using h) (by have h:=FR.apart (pre:=[_,_,_,_]) (rest:=[_]++(p_4++(r_5++[]))) (i:=1) hF O; simpa using h) (Wi hF.desc (i:=3) (j:=1) O O Ua) hnb2 hnb6),Am,(((((hF.front 4 O).erase 1).erase 1).erase 1).erase 1)⟩
 refine Cm O (v:=fun b=>.slice (some ⟨b,0,none⟩) (lb.length+1) (lb.length+1)) (o:=.cells (Mb (lb.length+1) fun _=>0) 3) hF (Mj Wh Qb O O U) ?_
 clear hF; intro b9 w hb9 hF hE
 have hnb9:∀ k,k < x→q k≠b9∧r k≠b9:=fun k hk=>by have h1:=Ra (hW.rq.row k hk); have h2:=Ra (hW.rr.row k hk); constructor <;> omega
 replace hW:=hW.step hE Ma
 clear hE
 refine ⟨hF.sub (.cons _ (.cons _ (.cons_cons _ (List.nil_sublist _)))),?_⟩
 refine Mk ?_ ?_
 refine Ge 1 O hF (Za (cs:=#[.slice (some ⟨b2,0,none⟩) (lb.length+1) (lb.length+1)]) underlying37 sizeOf42 zeroValue42 Ua Ua Qb) ?_
 clear hF; intro b10 w hb10 hF hE
 have hnb10:∀ k,k < x→q k≠b10∧r k≠b10:=fun k hk=>by have h1:=Ra (hW.rq.row k hk); have h2:=Ra (hW.rr.row k hk); constructor <;> omega
 replace hW:=hW.step hE Ma
 clear hE
 refine ⟨hF.sub (.cons _ (.cons _ (.cons _ (.cons_cons _ (List.nil_sublist _))))),?_⟩
 refine Mk ?_ ?_
 refine Rc [(b10,.cells #[.slice (some ⟨b2,0,none⟩) (lb.length+1) (lb.length+1)] 42),(b9,.cells (Mb (lb.length+1) (fun _=>0)) 3),(b2,.cells (Mb (lb.length+1) (fun _=>0)) 3),(b1,.cells #[.slice Aa la.length k1,.slice Ab lb.length k2,.slice AP x kP,.slice AR x kR] 53)] (sr++[]) (news:=[.slice (some ⟨b2,0,none⟩) (lb.length+1) (lb.length+1)]) (len':=x+1) (ys:=Vh (lb.length+1) (x+1) (Vg q x b2)) O Zk hF hSp O O (O) (fun _=>⟨_,O,Xb (hF.cellsAll 0 O)⟩) (by simp [Value.oneCell']) (by simp only [maxLen]; omega) (O) (Te _ _ _ _) U ?_
 clear hF; intro A6 c6 p_6 w hS6_p hF hE hnew
 replace hW:=hW.grow (ids':=[b1]++(p_6.map (·.1)++sr.map (·.1))) hE (by grind) (by grind)
 clear hE hnew
 refine ⟨hF.sub (.cons _ (.cons _ (.cons _ (.cons_cons _ (List.nil_sublist _))))),?_⟩
 refine Ge 1 O hF (Za (cs:=#[.slice (some ⟨b9,0,none⟩) (lb.length+1) (lb.length+1)]) underlying37 sizeOf42 zeroValue42 Ua Ua Qb) ?_
 clear hF; intro b11 w hb11 hF hE
 have hnb11:∀ k,k < x→q k≠b11∧r k≠b11:=fun k hk=>by have h1:=Ra (hW.rq.row k hk); have h2:=Ra (hW.rr.row k hk); constructor <;> omega
 replace hW:=hW.step hE Ma
 clear hE
 refine ⟨hF.sub (.cons _ (.cons _ (.cons _ (.cons _ (.cons_cons _ (List.nil_sublist _)))))),?_⟩
 refine Rc ([(b11,.cells #[.slice (some ⟨b9,0,none⟩) (lb.length+1) (lb.length+1)] 42),(b10,.cells #[.slice (some ⟨b2,0,none⟩) (lb.length+1) (lb.length+1)] 42),(b9,.cells (Mb (lb.length+1) (fun _=>0)) 3),(b2,.cells (Mb (lb.length+1) (fun _=>0)) 3),(b1,.cells #[.slice Aa la.length k1,.slice Ab lb.length k2,.slice AP x kP,.slice AR x kR] 53)]++p_6) [] (news:=[.slice (some ⟨b9,0,none⟩) (lb.length+1) (lb.length+1)]) (len':=x+1) (ys:=Vh (lb.length+1) (x+1) (Vg r x b9)) O Zk hF hSr O O (O) (fun _=>⟨_,O,Xb (hF.cellsAll 0 O)⟩) (by simp [Value.oneCell']) (by simp only [maxLen]; omega) (O) (Te _ _ _ _) U ?_
 clear hF; intro A7 c7 r_7 w hS7_r hF hE hnew
 replace hW:=hW.grow (ids':=[b1]++(p_6.map (·.1)++r_7.map (·.1))) hE (by grind) (by grind)
 clear hE hnew
 refine ⟨hF.sub (.cons _ (.cons _ (.cons _ (.cons _ (.cons_cons _ (List.nil_sublist _)))))),?_⟩
 refine Xe O (v:=.pointer (some ⟨b1,0,none⟩)) (Hd O) (hF.sub (.cons _ (.cons _ (.cons _ (.cons _ (.cons_cons _ (List.nil_sublist _))))))) ?_
 refine Db O (Ec Hk O) ?_
 refine Ad O 4 (l:=[.slice (A6) (x+1) (c6)]) (cs':=#[.slice Aa la.length k1,.slice Ab lb.length k2,.slice (A6) (x+1) (c6),.slice AR x kR]) hF sizeOf37 O (v:=.slice (A6) (x+1) (c6)) O O Ed O Kb O ?_
 clear hF; intro w hF hE
 replace hW:=hW.step hE Ma
 clear hE
 replace hF:FR w0 [] ([(b11,.cells #[.slice (some ⟨b9,0,none⟩) (lb.length+1) (lb.length+1)] 42),(b10,.cells #[.slice (some ⟨b2,0,none⟩) (lb.length+1) (lb.length+1)] 42),(b9,.cells (Mb (lb.length+1) (fun _=>0)) 3),(b2,.cells (Mb (lb.length+1) (fun _=>0)) 3),(b1,.cells #[.slice Aa la.length k1,.slice Ab lb.length k2,.slice (A6) (x+1) (c6),.slice AR x kR] 53)]++(p_6++(r_7++[]))) w:=hF
 refine Xe O (v:=.pointer (some ⟨b1,0,none⟩)) (Hd O) (trivial) ?_
 refine Db O (Ec Ci O) ?_
 refine Ad O 4 (l:=[.slice (A7) (x+1) (c7)]) (cs':=#[.slice Aa la.length k1,.slice Ab lb.length k2,.slice (A6) (x+1) (c6),.slice (A7) (x+1) (c7)]) hF sizeOf37 O (v:=.slice (A7) (x+1) (c7)) O O Ed O Kb O ?_
 clear hF; intro w hF hE
 replace hW:=hW.step hE Ma
 clear hE
 replace hF:FR w0 [] ([(b11,.cells #[.slice (some ⟨b9,0,none⟩) (lb.length+1) (lb.length+1)] 42),(b10,.cells #[.slice (some ⟨b2,0,none⟩) (lb.length+1) (lb.length+1)] 42),(b9,.cells (Mb (lb.length+1) (fun _=>0)) 3),(b2,.cells (Mb (lb.length+1) (fun _=>0)) 3),(b1,.cells #[.slice Aa la.length k1,.slice Ab lb.length k2,.slice (A6) (x+1) (c6),.slice (A7) (x+1) (c7)] 53)]++(p_6++(r_7++[]))) w:=hF
 refine Mc (Eb ?_)
 exact Ib ⟨(A6),(c6),(p_6),(A7),(c7),(r_7),(Vg q x b2),(Vg r x b9),(hS6_p),(hS7_r),(hW.put (hF.heap (i:=3) O) (hF.heap (i:=2) O) (hF.ge (i:=3) O) (hF.ge (i:=2) O) (by have h:=FR.apart (pre:=[_,_,_,_]) (rest:=[_]++(p_6++(r_7++[]))) (i:=3) hF O; simpa using h) (by have h:=FR.apart (pre:=[_,_,_,_]) (rest:=[_]++(p_6++(r_7++[]))) (i:=2) hF O; simpa using h) (Wi hF.desc (i:=3) (j:=2) O O Ua) hnb2 hnb9),Am,(((((hF.front 4 O).erase 1).erase 1).erase 1).erase 1)⟩
 refine Ge 1 O hF (Za (cs:=#[.slice (some ⟨b9,0,none⟩) (lb.length+1) (lb.length+1)]) underlying37 sizeOf42 zeroValue42 Ua Ua Qb) ?_
 clear hF; intro b12 w hb12 hF hE
 have hnb12:∀ k,k < x→q k≠b12∧r k≠b12:=fun k hk=>by have h1:=Ra (hW.rq.row k hk); have h2:=Ra (hW.rr.row k hk); constructor <;> omega
 replace hW:=hW.step hE Ma
 clear hE
 refine ⟨hF.sub (.cons _ (.cons _ (.cons _ (.cons _ (.cons_cons _ (List.nil_sublist _)))))),?_⟩
 refine Rc [(b12,.cells #[.slice (some ⟨b9,0,none⟩) (lb.length+1) (lb.length+1)] 42),(b10,.cells #[.slice (some ⟨b2,0,none⟩) (lb.length+1) (lb.length+1)] 42),(b9,.cells (Mb (lb.length+1) (fun _=>0)) 3),(b2,.cells (Mb (lb.length+1) (fun _=>0)) 3),(b1,.cells #[.slice Aa la.length k1,.slice Ab lb.length k2,.slice AP x kP,.slice AR x kR] 53)] (sr++[]) (news:=[.slice (some ⟨b2,0,none⟩) (lb.length+1) (lb.length+1)]) (len':=x+1) (ys:=Vh (lb.length+1) (x+1) (Vg q x b2)) O Zk hF hSp O O (O) (fun _=>⟨_,O,Xb (hF.cellsAll 1 O)⟩) (by simp [Value.oneCell']) (by simp only [maxLen]; omega) (O) (Te _ _ _ _) U ?_
 clear hF; intro A8 c8 p_8 w hS8_p hF hE hnew
 replace hW:=hW.grow (ids':=[b1]++(p_8.map (·.1)++sr.map (·.1))) hE (by grind) (by grind)
 clear hE hnew
 refine ⟨hF.sub (.cons _ (.cons _ (.cons _ (.cons _ (.cons_cons _ (List.nil_sublist _)))))),?_⟩
 refine Rc ([(b12,.cells #[.slice (some ⟨b9,0,none⟩) (lb.length+1) (lb.length+1)] 42),(b10,.cells #[.slice (some ⟨b2,0,none⟩) (lb.length+1) (lb.length+1)] 42),(b9,.cells (Mb (lb.length+1) (fun _=>0)) 3),(b2,.cells (Mb (lb.length+1) (fun _=>0)) 3),(b1,.cells #[.slice Aa la.length k1,.slice Ab lb.length k2,.slice AP x kP,.slice AR x kR] 53)]++p_8) [] (news:=[.slice (some ⟨b9,0,none⟩) (lb.length+1) (lb.length+1)]) (len':=x+1) (ys:=Vh (lb.length+1) (x+1) (Vg r x b9)) O Zk hF hSr O O (O) (fun _=>⟨_,O,Xb (hF.cellsAll 0 O)⟩) (by simp [Value.oneCell']) (by simp only [maxLen]; omega) (O) (Te _ _ _ _) U ?_
 clear hF; intro A9 c9 r_9 w hS9_r hF hE hnew
 replace hW:=hW.grow (ids':=[b1]++(p_8.map (·.1)++r_9.map (·.1))) hE (by grind) (by grind)
 clear hE hnew
 refine ⟨hF.sub (.cons _ (.cons _ (.cons _ (.cons _ (.cons_cons _ (List.nil_sublist _)))))),?_⟩
 refine Xe O (v:=.pointer (some ⟨b1,0,none⟩)) (Hd O) (hF.sub (.cons _ (.cons _ (.cons _ (.cons _ (.cons_cons _ (List.nil_sublist _))))))) ?_
 refine Db O (Ec Hk O) ?_
 refine Ad O 4 (l:=[.slice (A8) (x+1) (c8)]) (cs':=#[.slice Aa la.length k1,.slice Ab lb.length k2,.slice (A8) (x+1) (c8),.slice AR x kR]) hF sizeOf37 O (v:=.slice (A8) (x+1) (c8)) O O Ed O Kb O ?_
 clear hF; intro w hF hE
 replace hW:=hW.step hE Ma
 clear hE
 replace hF:FR w0 [] ([(b12,.cells #[.slice (some ⟨b9,0,none⟩) (lb.length+1) (lb.length+1)] 42),(b10,.cells #[.slice (some ⟨b2,0,none⟩) (lb.length+1) (lb.length+1)] 42),(b9,.cells (Mb (lb.length+1) (fun _=>0)) 3),(b2,.cells (Mb (lb.length+1) (fun _=>0)) 3),(b1,.cells #[.slice Aa la.length k1,.slice Ab lb.length k2,.slice (A8) (x+1) (c8),.slice AR x kR] 53)]++(p_8++(r_9++[]))) w:=hF
 refine Xe O (v:=.pointer (some ⟨b1,0,none⟩)) (Hd O) (trivial) ?_
 refine Db O (Ec Ci O) ?_
 refine Ad O 4 (l:=[.slice (A9) (x+1) (c9)]) (cs':=#[.slice Aa la.length k1,.slice Ab lb.length k2,.slice (A8) (x+1) (c8),.slice (A9) (x+1) (c9)]) hF sizeOf37 O (v:=.slice (A9) (x+1) (c9)) O O Ed O Kb O ?_
 clear hF; intro w hF hE
 replace hW:=hW.step hE Ma
 clear hE
 replace hF:FR w0 [] ([(b12,.cells #[.slice (some ⟨b9,0,none⟩) (lb.length+1) (lb.length+1)] 42),(b10,.cells #[.slice (some ⟨b2,0,none⟩) (lb.length+1) (lb.length+1)] 42),(b9,.cells (Mb (lb.length+1) (fun _=>0)) 3),(b2,.cells (Mb (lb.length+1) (fun _=>0)) 3),(b1,.cells #[.slice Aa la.length k1,.slice Ab lb.length k2,.slice (A8) (x+1) (c8),.slice (A9) (x+1) (c9)] 53)]++(p_8++(r_9++[]))) w:=hF
 refine Mc (Eb ?_)
 exact Ib ⟨(A8),(c8),(p_8),(A9),(c9),(r_9),(Vg q x b2),(Vg r x b9),(hS8_p),(hS9_r),(hW.put (hF.heap (i:=3) O) (hF.heap (i:=2) O) (hF.ge (i:=3) O) (hF.ge (i:=2) O) (by have h:=FR.apart (pre:=[_,_,_,_]) (rest:=[_]++(p_8++(r_9++[]))) (i:=3) hF O; simpa using h) (by have h:=FR.apart (pre:=[_,_,_,_]) (rest:=[_]++(p_8++(r_9++[]))) (i:=2) hF O; simpa using h) (Wi hF.desc (i:=3) (j:=2) O O Ua) hnb2 hnb9),Am,(((((hF.front 4 O).erase 1).erase 1).erase 1).erase 1)⟩
 refine Ge 1 O hF (Za (cs:=#[.slice (some ⟨b9,0,none⟩) (lb.length+1) (lb.length+1)]) underlying37 sizeOf42 zeroValue42 Ua Ua Qb) ?_
 clear hF; intro b13 w hb13 hF hE
 have hnb13:∀ k,k < x→q k≠b13∧r k≠b13:=fun k hk=>by have h1:=Ra (hW.rq.row k hk); have h2:=Ra (hW.rr.row k hk); constructor <;> omega
 replace hW:=hW.step hE Ma
 clear hE
 refine ⟨hF.sub (.cons _ (.cons _ (.cons _ (.cons_cons _ (List.nil_sublist _))))),?_⟩
 refine Ge 1 O hF (Za (cs:=#[.slice (some ⟨b2,0,none⟩) (lb.length+1) (lb.length+1)]) underlying37 sizeOf42 zeroValue42 Ua Ua Qb) ?_
 clear hF; intro b14 w hb14 hF hE
 have hnb14:∀ k,k < x→q k≠b14∧r k≠b14:=fun k hk=>by have h1:=Ra (hW.rq.row k hk); have h2:=Ra (hW.rr.row k hk); constructor <;> omega
 replace hW:=hW.step hE Ma
 clear hE
 refine ⟨hF.sub (.cons _ (.cons _ (.cons _ (.cons _ (.cons_cons _ (List.nil_sublist _)))))),?_⟩
 refine Rc [(b14,.cells #[.slice (some ⟨b2,0,none⟩) (lb.length+1) (lb.length+1)] 42),(b13,.cells #[.slice (some ⟨b9,0,none⟩) (lb.length+1) (lb.length+1)] 42),(b9,.cells (Mb (lb.length+1) (fun _=>0)) 3),(b2,.cells (Mb (lb.length+1) (fun _=>0)) 3),(b1,.cells #[.slice Aa la.length k1,.slice Ab lb.length k2,.slice AP x kP,.slice AR x kR] 53)] (sr++[]) (news:=[.slice (some ⟨b2,0,none⟩) (lb.length+1) (lb.length+1)]) (len':=x+1) (ys:=Vh (lb.length+1) (x+1) (Vg q x b2)) O Zk hF hSp O O (O) (fun _=>⟨_,O,Xb (hF.cellsAll 0 O)⟩) (by simp [Value.oneCell']) (by simp only [maxLen]; omega) (O) (Te _ _ _ _) U ?_
 clear hF; intro A10 c10 p_10 w hS10_p hF hE hnew
 replace hW:=hW.grow (ids':=[b1]++(p_10.map (·.1)++sr.map (·.1))) hE (by grind) (by grind)
 clear hE hnew
 refine ⟨hF.sub (.cons _ (.cons _ (.cons _ (.cons _ (.cons_cons _ (List.nil_sublist _)))))),?_⟩
 refine Rc ([(b14,.cells #[.slice (some ⟨b2,0,none⟩) (lb.length+1) (lb.length+1)] 42),(b13,.cells #[.slice (some ⟨b9,0,none⟩) (lb.length+1) (lb.length+1)] 42),(b9,.cells (Mb (lb.length+1) (fun _=>0)) 3),(b2,.cells (Mb (lb.length+1) (fun _=>0)) 3),(b1,.cells #[.slice Aa la.length k1,.slice Ab lb.length k2,.slice AP x kP,.slice AR x kR] 53)]++p_10) [] (news:=[.slice (some ⟨b9,0,none⟩) (lb.length+1) (lb.length+1)]) (len':=x+1) (ys:=Vh (lb.length+1) (x+1) (Vg r x b9)) O Zk hF hSr O O (O) (fun _=>⟨_,O,Xb (hF.cellsAll 1 O)⟩) (by simp [Value.oneCell']) (by simp only [maxLen]; omega) (O) (Te _ _ _ _) U ?_
 clear hF; intro A11 c11 r_11 w hS11_r hF hE hnew
 replace hW:=hW.grow (ids':=[b1]++(p_10.map (·.1)++r_11.map (·.1))) hE (by grind) (by grind)
 clear hE hnew
 refine ⟨hF.sub (.cons _ (.cons _ (.cons _ (.cons _ (.cons_cons _ (List.nil_sublist _)))))),?_⟩
 refine Xe O (v:=.pointer (some ⟨b1,0,none⟩)) (Hd O) (hF.sub (.cons _ (.cons _ (.cons _ (.cons _ (.cons_cons _ (List.nil_sublist _))))))) ?_
 refine Db O (Ec Hk O) ?_
 refine Ad O 4 (l:=[.slice (A10) (x+1) (c10)]) (cs':=#[.slice Aa la.length k1,.slice Ab lb.length k2,.slice (A10) (x+1) (c10),.slice AR x kR]) hF sizeOf37 O (v:=.slice (A10) (x+1) (c10)) O O Ed O Kb O ?_
 clear hF; intro w hF hE
 replace hW:=hW.step hE Ma
 clear hE
 replace hF:FR w0 [] ([(b14,.cells #[.slice (some ⟨b2,0,none⟩) (lb.length+1) (lb.length+1)] 42),(b13,.cells #[.slice (some ⟨b9,0,none⟩) (lb.length+1) (lb.length+1)] 42),(b9,.cells (Mb (lb.length+1) (fun _=>0)) 3),(b2,.cells (Mb (lb.length+1) (fun _=>0)) 3),(b1,.cells #[.slice Aa la.length k1,.slice Ab lb.length k2,.slice (A10) (x+1) (c10),.slice AR x kR] 53)]++(p_10++(r_11++[]))) w:=hF
 refine Xe O (v:=.pointer (some ⟨b1,0,none⟩)) (Hd O) (trivial) ?_
 refine Db O (Ec Ci O) ?_
 refine Ad O 4 (l:=[.slice (A11) (x+1) (c11)]) (cs':=#[.slice Aa la.length k1,.slice Ab lb.length k2,.slice (A10) (x+1) (c10),.slice (A11) (x+1) (c11)]) hF sizeOf37 O (v:=.slice (A11) (x+1) (c11)) O O Ed O Kb O ?_
 clear hF; intro w hF hE
 replace hW:=hW.step hE Ma
 clear hE
 replace hF:FR w0 [] ([(b14,.cells #[.slice (some ⟨b2,0,none⟩) (lb.length+1) (lb.length+1)] 42),(b13,.cells #[.slice (some ⟨b9,0,none⟩) (lb.length+1) (lb.length+1)] 42),(b9,.cells (Mb (lb.length+1) (fun _=>0)) 3),(b2,.cells (Mb (lb.length+1) (fun _=>0)) 3),(b1,.cells #[.slice Aa la.length k1,.slice Ab lb.length k2,.slice (A10) (x+1) (c10),.slice (A11) (x+1) (c11)] 53)]++(p_10++(r_11++[]))) w:=hF
 refine Mc (Eb ?_)
 exact Ib ⟨(A10),(c10),(p_10),(A11),(c11),(r_11),(Vg q x b2),(Vg r x b9),(hS10_p),(hS11_r),(hW.put (hF.heap (i:=3) O) (hF.heap (i:=2) O) (hF.ge (i:=3) O) (hF.ge (i:=2) O) (by have h:=FR.apart (pre:=[_,_,_,_]) (rest:=[_]++(p_10++(r_11++[]))) (i:=3) hF O; simpa using h) (by have h:=FR.apart (pre:=[_,_,_,_]) (rest:=[_]++(p_10++(r_11++[]))) (i:=2) hF O; simpa using h) (Wi hF.desc (i:=3) (j:=2) O O Ua) hnb2 hnb9),Am,(((((hF.front 4 O).erase 1).erase 1).erase 1).erase 1)⟩
 refine Cm O (v:=fun b=>.slice (some ⟨b,0,none⟩) (lb.length+1) (lb.length+1)) (o:=.cells (Mb (lb.length+1) fun _=>0) 3) hF (Mj Wh Qb O O U) ?_
 clear hF; intro b15 w hb15 hF hE
 have hnb15:∀ k,k < x→q k≠b15∧r k≠b15:=fun k hk=>by have h1:=Ra (hW.rq.row k hk); have h2:=Ra (hW.rr.row k hk); constructor <;> omega
 replace hW:=hW.step hE Ma
 clear hE
 refine ⟨hF.sub (.cons _ (.cons_cons _ (List.nil_sublist _))),?_⟩
 refine Mk ?_ ?_
 refine Cm O (v:=fun b=>.slice (some ⟨b,0,none⟩) (lb.length+1) (lb.length+1)) (o:=.cells (Mb (lb.length+1) fun _=>0) 3) hF (Mj Wh Qb O O U) ?_
 clear hF; intro b16 w hb16 hF hE
 have hnb16:∀ k,k < x→q k≠b16∧r k≠b16:=fun k hk=>by have h1:=Ra (hW.rq.row k hk); have h2:=Ra (hW.rr.row k hk); constructor <;> omega
 replace hW:=hW.step hE Ma
 clear hE
 refine ⟨hF.sub (.cons _ (.cons _ (.cons_cons _ (List.nil_sublist _)))),?_⟩
 refine Mk ?_ ?_
 refine Ge 1 O hF (Za (cs:=#[.slice (some ⟨b16,0,none⟩) (lb.length+1) (lb.length+1)]) underlying37 sizeOf42 zeroValue42 Ua Ua Qb) ?_
 clear hF; intro b17 w hb17 hF hE
 have hnb17:∀ k,k < x→q k≠b17∧r k≠b17:=fun k hk=>by have h1:=Ra (hW.rq.row k hk); have h2:=Ra (hW.rr.row k hk); constructor <;> omega
 replace hW:=hW.step hE Ma
 clear hE
 refine ⟨hF.sub (.cons _ (.cons _ (.cons _ (.cons_cons _ (List.nil_sublist _))))),?_⟩
 refine Mk ?_ ?_
 refine Rc [(b17,.cells #[.slice (some ⟨b16,0,none⟩) (lb.length+1) (lb.length+1)] 42),(b16,.cells (Mb (lb.length+1) (fun _=>0)) 3),(b15,.cells (Mb (lb.length+1) (fun _=>0)) 3),(b1,.cells #[.slice Aa la.length k1,.slice Ab lb.length k2,.slice AP x kP,.slice AR x kR] 53)] (sr++[]) (news:=[.slice (some ⟨b16,0,none⟩) (lb.length+1) (lb.length+1)]) (len':=x+1) (ys:=Vh (lb.length+1) (x+1) (Vg q x b16)) O Zk hF hSp O O (O) (fun _=>⟨_,O,Xb (hF.cellsAll 0 O)⟩) (by simp [Value.oneCell']) (by simp only [maxLen]; omega) (O) (Te _ _ _ _) U ?_
 clear hF; intro A12 c12 p_12 w hS12_p hF hE hnew
 replace hW:=hW.grow (ids':=[b1]++(p_12.map (·.1)++sr.map (·.1))) hE (by grind) (by grind)
 clear hE hnew
 refine ⟨hF.sub (.cons _ (.cons _ (.cons _ (.cons_cons _ (List.nil_sublist _))))),?_⟩
 refine Ge 1 O hF (Za (cs:=#[.slice (some ⟨b15,0,none⟩) (lb.length+1) (lb.length+1)]) underlying37 sizeOf42 zeroValue42 Ua Ua Qb) ?_
 clear hF; intro b18 w hb18 hF hE
 have hnb18:∀ k,k < x→q k≠b18∧r k≠b18:=fun k hk=>by have h1:=Ra (hW.rq.row k hk); have h2:=Ra (hW.rr.row k hk); constructor <;> omega
 replace hW:=hW.step hE Ma
 clear hE
 refine ⟨hF.sub (.cons _ (.cons _ (.cons _ (.cons _ (.cons_cons _ (List.nil_sublist _)))))),?_⟩
 refine Rc ([(b18,.cells #[.slice (some ⟨b15,0,none⟩) (lb.length+1) (lb.length+1)] 42),(b17,.cells #[.slice (some ⟨b16,0,none⟩) (lb.length+1) (lb.length+1)] 42),(b16,.cells (Mb (lb.length+1) (fun _=>0)) 3),(b15,.cells (Mb (lb.length+1) (fun _=>0)) 3),(b1,.cells #[.slice Aa la.length k1,.slice Ab lb.length k2,.slice AP x kP,.slice AR x kR] 53)]++p_12) [] (news:=[.slice (some ⟨b15,0,none⟩) (lb.length+1) (lb.length+1)]) (len':=x+1) (ys:=Vh (lb.length+1) (x+1) (Vg r x b15)) O Zk hF hSr O O (O) (fun _=>⟨_,O,Xb (hF.cellsAll 0 O)⟩) (by simp [Value.oneCell']) (by simp only [maxLen]; omega) (O) (Te _ _ _ _) U ?_
 clear hF; intro A13 c13 r_13 w hS13_r hF hE hnew
 replace hW:=hW.grow (ids':=[b1]++(p_12.map (·.1)++r_13.map (·.1))) hE (by grind) (by grind)
 clear hE hnew
 refine ⟨hF.sub (.cons _ (.cons _ (.cons _ (.cons _ (.cons_cons _ (List.nil_sublist _)))))),?_⟩
 refine Xe O (v:=.pointer (some ⟨b1,0,none⟩)) (Hd O) (hF.sub (.cons _ (.cons _ (.cons _ (.cons _ (.cons_cons _ (List.nil_sublist _))))))) ?_
 refine Db O (Ec Hk O) ?_
 refine Ad O 4 (l:=[.slice (A12) (x+1) (c12)]) (cs':=#[.slice Aa la.length k1,.slice Ab lb.length k2,.slice (A12) (x+1) (c12),.slice AR x kR]) hF sizeOf37 O (v:=.slice (A12) (x+1) (c12)) O O Ed O Kb O ?_
 clear hF; intro w hF hE
 replace hW:=hW.step hE Ma
 clear hE
 replace hF:FR w0 [] ([(b18,.cells #[.slice (some ⟨b15,0,none⟩) (lb.length+1) (lb.length+1)] 42),(b17,.cells #[.slice (some ⟨b16,0,none⟩) (lb.length+1) (lb.length+1)] 42),(b16,.cells (Mb (lb.length+1) (fun _=>0)) 3),(b15,.cells (Mb (lb.length+1) (fun _=>0)) 3),(b1,.cells #[.slice Aa la.length k1,.slice Ab lb.length k2,.slice (A12) (x+1) (c12),.slice AR x kR] 53)]++(p_12++(r_13++[]))) w:=hF
 refine Xe O (v:=.pointer (some ⟨b1,0,none⟩)) (Hd O) (trivial) ?_
 refine Db O (Ec Ci O) ?_
 refine Ad O 4 (l:=[.slice (A13) (x+1) (c13)]) (cs':=#[.slice Aa la.length k1,.slice Ab lb.length k2,.slice (A12) (x+1) (c12),.slice (A13) (x+1) (c13)]) hF sizeOf37 O (v:=.slice (A13) (x+1) (c13)) O O Ed O Kb O ?_
 clear hF; intro w hF hE
 replace hW:=hW.step hE Ma
 clear hE
 replace hF:FR w0 [] ([(b18,.cells #[.slice (some ⟨b15,0,none⟩) (lb.length+1) (lb.length+1)] 42),(b17,.cells #[.slice (some ⟨b16,0,none⟩) (lb.length+1) (lb.length+1)] 42),(b16,.cells (Mb (lb.length+1) (fun _=>0)) 3),(b15,.cells (Mb (lb.length+1) (fun _=>0)) 3),(b1,.cells #[.slice Aa la.length k1,.slice Ab lb.length k2,.slice (A12) (x+1) (c12),.slice (A13) (x+1) (c13)] 53)]++(p_12++(r_13++[]))) w:=hF
 refine Mc (Eb ?_)
 exact Ib ⟨(A12),(c12),(p_12),(A13),(c13),(r_13),(Vg q x b16),(Vg r x b15),(hS12_p),(hS13_r),(hW.put (hF.heap (i:=2) O) (hF.heap (i:=3) O) (hF.ge (i:=2) O) (hF.ge (i:=3) O) (by have h:=FR.apart (pre:=[_,_,_,_]) (rest:=[_]++(p_12++(r_13++[]))) (i:=2) hF O; simpa using h) (by have h:=FR.apart (pre:=[_,_,_,_]) (rest:=[_]++(p_12++(r_13++[]))) (i:=3) hF O; simpa using h) (Wi hF.desc (i:=2) (j:=3) O O Ua) hnb16 hnb15),Am,(((((hF.front 4 O).erase 1).erase 1).erase 1).erase 1)⟩
 refine Ge 1 O hF (Za (cs:=#[.slice (some ⟨b15,0,none⟩) (lb.length+1) (lb.length+1)]) underlying37 sizeOf42 zeroValue42 Ua Ua Qb) ?_
 clear hF; intro b19 w hb19 hF hE
 have hnb19:∀ k,k < x→q k≠b19∧r k≠b19:=fun k hk=>by have h1:=Ra (hW.rq.row k hk); have h2:=Ra (hW.rr.row k hk); constructor <;> omega
 replace hW:=hW.step hE Ma
 clear hE
 refine ⟨hF.sub (.cons _ (.cons _ (.cons _ (.cons _ (.cons_cons _ (List.nil_sublist _)))))),?_⟩
 refine Rc [(b19,.cells #[.slice (some ⟨b15,0,none⟩) (lb.length+1) (lb.length+1)] 42),(b17,.cells #[.slice (some ⟨b16,0,none⟩) (lb.length+1) (lb.length+1)] 42),(b16,.cells (Mb (lb.length+1) (fun _=>0)) 3),(b15,.cells (Mb (lb.length+1) (fun _=>0)) 3),(b1,.cells #[.slice Aa la.length k1,.slice Ab lb.length k2,.slice AP x kP,.slice AR x kR] 53)] (sr++[]) (news:=[.slice (some ⟨b16,0,none⟩) (lb.length+1) (lb.length+1)]) (len':=x+1) (ys:=Vh (lb.length+1) (x+1) (Vg q x b16)) O Zk hF hSp O O (O) (fun _=>⟨_,O,Xb (hF.cellsAll 1 O)⟩) (by simp [Value.oneCell']) (by simp only [maxLen]; omega) (O) (Te _ _ _ _) U ?_
 clear hF; intro A14 c14 p_14 w hS14_p hF hE hnew
 replace hW:=hW.grow (ids':=[b1]++(p_14.map (·.1)++sr.map (·.1))) hE (by grind) (by grind)
 clear hE hnew
 refine ⟨hF.sub (.cons _ (.cons _ (.cons _ (.cons _ (.cons_cons _ (List.nil_sublist _)))))),?_⟩
 refine Rc ([(b19,.cells #[.slice (some ⟨b15,0,none⟩) (lb.length+1) (lb.length+1)] 42),(b17,.cells #[.slice (some ⟨b16,0,none⟩) (lb.length+1) (lb.length+1)] 42),(b16,.cells (Mb (lb.length+1) (fun _=>0)) 3),(b15,.cells (Mb (lb.length+1) (fun _=>0)) 3),(b1,.cells #[.slice Aa la.length k1,.slice Ab lb.length k2,.slice AP x kP,.slice AR x kR] 53)]++p_14) [] (news:=[.slice (some ⟨b15,0,none⟩) (lb.length+1) (lb.length+1)]) (len':=x+1) (ys:=Vh (lb.length+1) (x+1) (Vg r x b15)) O Zk hF hSr O O (O) (fun _=>⟨_,O,Xb (hF.cellsAll 0 O)⟩) (by simp [Value.oneCell']) (by simp only [maxLen]; omega) (O) (Te _ _ _ _) U ?_
 clear hF; intro A15 c15 r_15 w hS15_r hF hE hnew
 replace hW:=hW.grow (ids':=[b1]++(p_14.map (·.1)++r_15.map (·.1))) hE (by grind) (by grind)
 clear hE hnew
 refine ⟨hF.sub (.cons _ (.cons _ (.cons _ (.cons _ (.cons_cons _ (List.nil_sublist _)))))),?_⟩
 refine Xe O (v:=.pointer (some ⟨b1,0,none⟩)) (Hd O) (hF.sub (.cons _ (.cons _ (.cons _ (.cons _ (.cons_cons _ (List.nil_sublist _))))))) ?_
 refine Db O (Ec Hk O) ?_
 refine Ad O 4 (l:=[.slice (A14) (x+1) (c14)]) (cs':=#[.slice Aa la.length k1,.slice Ab lb.length k2,.slice (A14) (x+1) (c14),.slice AR x kR]) hF sizeOf37 O (v:=.slice (A14) (x+1) (c14)) O O Ed O Kb O ?_
 clear hF; intro w hF hE
 replace hW:=hW.step hE Ma
 clear hE
 replace hF:FR w0 [] ([(b19,.cells #[.slice (some ⟨b15,0,none⟩) (lb.length+1) (lb.length+1)] 42),(b17,.cells #[.slice (some ⟨b16,0,none⟩) (lb.length+1) (lb.length+1)] 42),(b16,.cells (Mb (lb.length+1) (fun _=>0)) 3),(b15,.cells (Mb (lb.length+1) (fun _=>0)) 3),(b1,.cells #[.slice Aa la.length k1,.slice Ab lb.length k2,.slice (A14) (x+1) (c14),.slice AR x kR] 53)]++(p_14++(r_15++[]))) w:=hF
 refine Xe O (v:=.pointer (some ⟨b1,0,none⟩)) (Hd O) (trivial) ?_
 refine Db O (Ec Ci O) ?_
 refine Ad O 4 (l:=[.slice (A15) (x+1) (c15)]) (cs':=#[.slice Aa la.length k1,.slice Ab lb.length k2,.slice (A14) (x+1) (c14),.slice (A15) (x+1) (c15)]) hF sizeOf37 O (v:=.slice (A15) (x+1) (c15)) O O Ed O Kb O ?_
 clear hF; intro w hF hE
 replace hW:=hW.step hE Ma
 clear hE
 replace hF:FR w0 [] ([(b19,.cells #[.slice (some ⟨b15,0,none⟩) (lb.length+1) (lb.length+1)] 42),(b17,.cells #[.slice (some ⟨b16,0,none⟩) (lb.length+1) (lb.length+1)] 42),(b16,.cells (Mb (lb.length+1) (fun _=>0)) 3),(b15,.cells (Mb (lb.length+1) (fun _=>0)) 3),(b1,.cells #[.slice Aa la.length k1,.slice Ab lb.length k2,.slice (A14) (x+1) (c14),.slice (A15) (x+1) (c15)] 53)]++(p_14++(r_15++[]))) w:=hF
 refine Mc (Eb ?_)
 exact Ib ⟨(A14),(c14),(p_14),(A15),(c15),(r_15),(Vg q x b16),(Vg r x b15),(hS14_p),(hS15_r),(hW.put (hF.heap (i:=2) O) (hF.heap (i:=3) O) (hF.ge (i:=2) O) (hF.ge (i:=3) O) (by have h:=FR.apart (pre:=[_,_,_,_]) (rest:=[_]++(p_14++(r_15++[]))) (i:=2) hF O; simpa using h) (by have h:=FR.apart (pre:=[_,_,_,_]) (rest:=[_]++(p_14++(r_15++[]))) (i:=3) hF O; simpa using h) (Wi hF.desc (i:=2) (j:=3) O O Ua) hnb16 hnb15),Am,(((((hF.front 4 O).erase 1).erase 1).erase 1).erase 1)⟩
 refine Ge 1 O hF (Za (cs:=#[.slice (some ⟨b15,0,none⟩) (lb.length+1) (lb.length+1)]) underlying37 sizeOf42 zeroValue42 Ua Ua Qb) ?_
 clear hF; intro b20 w hb20 hF hE
 have hnb20:∀ k,k < x→q k≠b20∧r k≠b20:=fun k hk=>by have h1:=Ra (hW.rq.row k hk); have h2:=Ra (hW.rr.row k hk); constructor <;> omega
 replace hW:=hW.step hE Ma
 clear hE
 refine ⟨hF.sub (.cons _ (.cons _ (.cons _ (.cons_cons _ (List.nil_sublist _))))),?_⟩
 refine Ge 1 O hF (Za (cs:=#[.slice (some ⟨b16,0,none⟩) (lb.length+1) (lb.length+1)]) underlying37 sizeOf42 zeroValue42 Ua Ua Qb) ?_
 clear hF; intro b21 w hb21 hF hE
 have hnb21:∀ k,k < x→q k≠b21∧r k≠b21:=fun k hk=>by have h1:=Ra (hW.rq.row k hk); have h2:=Ra (hW.rr.row k hk); constructor <;> omega
 replace hW:=hW.step hE Ma
 clear hE
 refine ⟨hF.sub (.cons _ (.cons _ (.cons _ (.cons _ (.cons_cons _ (List.nil_sublist _)))))),?_⟩
 refine Rc [(b21,.cells #[.slice (some ⟨b16,0,none⟩) (lb.length+1) (lb.length+1)] 42),(b20,.cells #[.slice (some ⟨b15,0,none⟩) (lb.length+1) (lb.length+1)] 42),(b16,.cells (Mb (lb.length+1) (fun _=>0)) 3),(b15,.cells (Mb (lb.length+1) (fun _=>0)) 3),(b1,.cells #[.slice Aa la.length k1,.slice Ab lb.length k2,.slice AP x kP,.slice AR x kR] 53)] (sr++[]) (news:=[.slice (some ⟨b16,0,none⟩) (lb.length+1) (lb.length+1)]) (len':=x+1) (ys:=Vh (lb.length+1) (x+1) (Vg q x b16)) O Zk hF hSp O O (O) (fun _=>⟨_,O,Xb (hF.cellsAll 0 O)⟩) (by simp [Value.oneCell']) (by simp only [maxLen]; omega) (O) (Te _ _ _ _) U ?_
 clear hF; intro A16 c16 p_16 w hS16_p hF hE hnew
 replace hW:=hW.grow (ids':=[b1]++(p_16.map (·.1)++sr.map (·.1))) hE (by grind) (by grind)
 clear hE hnew
 refine ⟨hF.sub (.cons _ (.cons _ (.cons _ (.cons _ (.cons_cons _ (List.nil_sublist _)))))),?_⟩
 refine Rc ([(b21,.cells #[.slice (some ⟨b16,0,none⟩) (lb.length+1) (lb.length+1)] 42),(b20,.cells #[.slice (some ⟨b15,0,none⟩) (lb.length+1) (lb.length+1)] 42),(b16,.cells (Mb (lb.length+1) (fun _=>0)) 3),(b15,.cells (Mb (lb.length+1) (fun _=>0)) 3),(b1,.cells #[.slice Aa la.length k1,.slice Ab lb.length k2,.slice AP x kP,.slice AR x kR] 53)]++p_16) [] (news:=[.slice (some ⟨b15,0,none⟩) (lb.length+1) (lb.length+1)]) (len':=x+1) (ys:=Vh (lb.length+1) (x+1) (Vg r x b15)) O Zk hF hSr O O (O) (fun _=>⟨_,O,Xb (hF.cellsAll 1 O)⟩) (by simp [Value.oneCell']) (by simp only [maxLen]; omega) (O) (Te _ _ _ _) U ?_
 clear hF; intro A17 c17 r_17 w hS17_r hF hE hnew
 replace hW:=hW.grow (ids':=[b1]++(p_16.map (·.1)++r_17.map (·.1))) hE (by grind) (by grind)
 clear hE hnew
 refine ⟨hF.sub (.cons _ (.cons _ (.cons _ (.cons _ (.cons_cons _ (List.nil_sublist _)))))),?_⟩
 refine Xe O (v:=.pointer (some ⟨b1,0,none⟩)) (Hd O) (hF.sub (.cons _ (.cons _ (.cons _ (.cons _ (.cons_cons _ (List.nil_sublist _))))))) ?_
 refine Db O (Ec Hk O) ?_
 refine Ad O 4 (l:=[.slice (A16) (x+1) (c16)]) (cs':=#[.slice Aa la.length k1,.slice Ab lb.length k2,.slice (A16) (x+1) (c16),.slice AR x kR]) hF sizeOf37 O (v:=.slice (A16) (x+1) (c16)) O O Ed O Kb O ?_
 clear hF; intro w hF hE
 replace hW:=hW.step hE Ma
 clear hE
 replace hF:FR w0 [] ([(b21,.cells #[.slice (some ⟨b16,0,none⟩) (lb.length+1) (lb.length+1)] 42),(b20,.cells #[.slice (some ⟨b15,0,none⟩) (lb.length+1) (lb.length+1)] 42),(b16,.cells (Mb (lb.length+1) (fun _=>0)) 3),(b15,.cells (Mb (lb.length+1) (fun _=>0)) 3),(b1,.cells #[.slice Aa la.length k1,.slice Ab lb.length k2,.slice (A16) (x+1) (c16),.slice AR x kR] 53)]++(p_16++(r_17++[]))) w:=hF
 refine Xe O (v:=.pointer (some ⟨b1,0,none⟩)) (Hd O) (trivial) ?_
 refine Db O (Ec Ci O) ?_
 refine Ad O 4 (l:=[.slice (A17) (x+1) (c17)]) (cs':=#[.slice Aa la.length k1,.slice Ab lb.length k2,.slice (A16) (x+1) (c16),.slice (A17) (x+1) (c17)]) hF sizeOf37 O (v:=.slice (A17) (x+1) (c17)) O O Ed O Kb O ?_
 clear hF; intro w hF hE
 replace hW:=hW.step hE Ma
 clear hE
 replace hF:FR w0 [] ([(b21,.cells #[.slice (some ⟨b16,0,none⟩) (lb.length+1) (lb.length+1)] 42),(b20,.cells #[.slice (some ⟨b15,0,none⟩) (lb.length+1) (lb.length+1)] 42),(b16,.cells (Mb (lb.length+1) (fun _=>0)) 3),(b15,.cells (Mb (lb.length+1) (fun _=>0)) 3),(b1,.cells #[.slice Aa la.length k1,.slice Ab lb.length k2,.slice (A16) (x+1) (c16),.slice (A17) (x+1) (c17)] 53)]++(p_16++(r_17++[]))) w:=hF
 refine Mc (Eb ?_)
 exact Ib ⟨(A16),(c16),(p_16),(A17),(c17),(r_17),(Vg q x b16),(Vg r x b15),(hS16_p),(hS17_r),(hW.put (hF.heap (i:=2) O) (hF.heap (i:=3) O) (hF.ge (i:=2) O) (hF.ge (i:=3) O) (by have h:=FR.apart (pre:=[_,_,_,_]) (rest:=[_]++(p_16++(r_17++[]))) (i:=2) hF O; simpa using h) (by have h:=FR.apart (pre:=[_,_,_,_]) (rest:=[_]++(p_16++(r_17++[]))) (i:=3) hF O; simpa using h) (Wi hF.desc (i:=2) (j:=3) O O Ua) hnb16 hnb15),Am,(((((hF.front 4 O).erase 1).erase 1).erase 1).erase 1)⟩
 refine Ge 1 O hF (Za (cs:=#[.slice (some ⟨b15,0,none⟩) (lb.length+1) (lb.length+1)]) underlying37 sizeOf42 zeroValue42 Ua Ua Qb) ?_
 clear hF; intro b22 w hb22 hF hE
 have hnb22:∀ k,k < x→q k≠b22∧r k≠b22:=fun k hk=>by have h1:=Ra (hW.rq.row k hk); have h2:=Ra (hW.rr.row k hk); constructor <;> omega
 replace hW:=hW.step hE Ma
 clear hE
 refine ⟨hF.sub (.cons _ (.cons _ (.cons_cons _ (List.nil_sublist _)))),?_⟩
 refine Cm O (v:=fun b=>.slice (some ⟨b,0,none⟩) (lb.length+1) (lb.length+1)) (o:=.cells (Mb (lb.length+1) fun _=>0) 3) hF (Mj Wh Qb O O U) ?_
 clear hF; intro b23 w hb23 hF hE
 have hnb23:∀ k,k < x→q k≠b23∧r k≠b23:=fun k hk=>by have h1:=Ra (hW.rq.row k hk); have h2:=Ra (hW.rr.row k hk); constructor <;> omega
 replace hW:=hW.step hE Ma
 clear hE
 refine ⟨hF.sub (.cons _ (.cons _ (.cons _ (.cons_cons _ (List.nil_sublist _))))),?_⟩
 refine Ge 1 O hF (Za (cs:=#[.slice (some ⟨b23,0,none⟩) (lb.length+1) (lb.length+1)]) underlying37 sizeOf42 zeroValue42 Ua Ua Qb) ?_
 clear hF; intro b24 w hb24 hF hE
 have hnb24:∀ k,k < x→q k≠b24∧r k≠b24:=fun k hk=>by have h1:=Ra (hW.rq.row k hk); have h2:=Ra (hW.rr.row k hk); constructor <;> omega
 replace hW:=hW.step hE Ma
 clear hE
 refine ⟨hF.sub (.cons _ (.cons _ (.cons _ (.cons _ (.cons_cons _ (List.nil_sublist _)))))),?_⟩
 refine Rc [(b24,.cells #[.slice (some ⟨b23,0,none⟩) (lb.length+1) (lb.length+1)] 42),(b23,.cells (Mb (lb.length+1) (fun _=>0)) 3),(b22,.cells #[.slice (some ⟨b15,0,none⟩) (lb.length+1) (lb.length+1)] 42),(b15,.cells (Mb (lb.length+1) (fun _=>0)) 3),(b1,.cells #[.slice Aa la.length k1,.slice Ab lb.length k2,.slice AP x kP,.slice AR x kR] 53)] (sr++[]) (news:=[.slice (some ⟨b23,0,none⟩) (lb.length+1) (lb.length+1)]) (len':=x+1) (ys:=Vh (lb.length+1) (x+1) (Vg q x b23)) O Zk hF hSp O O (O) (fun _=>⟨_,O,Xb (hF.cellsAll 0 O)⟩) (by simp [Value.oneCell']) (by simp only [maxLen]; omega) (O) (Te _ _ _ _) U ?_
 clear hF; intro A18 c18 p_18 w hS18_p hF hE hnew
 replace hW:=hW.grow (ids':=[b1]++(p_18.map (·.1)++sr.map (·.1))) hE (by grind) (by grind)
 clear hE hnew
 refine ⟨hF.sub (.cons _ (.cons _ (.cons _ (.cons _ (.cons_cons _ (List.nil_sublist _)))))),?_⟩
 refine Rc ([(b24,.cells #[.slice (some ⟨b23,0,none⟩) (lb.length+1) (lb.length+1)] 42),(b23,.cells (Mb (lb.length+1) (fun _=>0)) 3),(b22,.cells #[.slice (some ⟨b15,0,none⟩) (lb.length+1) (lb.length+1)] 42),(b15,.cells (Mb (lb.length+1) (fun _=>0)) 3),(b1,.cells #[.slice Aa la.length k1,.slice Ab lb.length k2,.slice AP x kP,.slice AR x kR] 53)]++p_18) [] (news:=[.slice (some ⟨b15,0,none⟩) (lb.length+1) (lb.length+1)]) (len':=x+1) (ys:=Vh (lb.length+1) (x+1) (Vg r x b15)) O Zk hF hSr O O (O) (fun _=>⟨_,O,Xb (hF.cellsAll 2 O)⟩) (by simp [Value.oneCell']) (by simp only [maxLen]; omega) (O) (Te _ _ _ _) U ?_
 clear hF; intro A19 c19 r_19 w hS19_r hF hE hnew
 replace hW:=hW.grow (ids':=[b1]++(p_18.map (·.1)++r_19.map (·.1))) hE (by grind) (by grind)
 clear hE hnew
 refine ⟨hF.sub (.cons _ (.cons _ (.cons _ (.cons _ (.cons_cons _ (List.nil_sublist _)))))),?_⟩
 refine Xe O (v:=.pointer (some ⟨b1,0,none⟩)) (Hd O) (hF.sub (.cons _ (.cons _ (.cons _ (.cons _ (.cons_cons _ (List.nil_sublist _))))))) ?_
 refine Db O (Ec Hk O) ?_
 refine Ad O 4 (l:=[.slice (A18) (x+1) (c18)]) (cs':=#[.slice Aa la.length k1,.slice Ab lb.length k2,.slice (A18) (x+1) (c18),.slice AR x kR]) hF sizeOf37 O (v:=.slice (A18) (x+1) (c18)) O O Ed O Kb O ?_
 clear hF; intro w hF hE
 replace hW:=hW.step hE Ma
 clear hE
 replace hF:FR w0 [] ([(b24,.cells #[.slice (some ⟨b23,0,none⟩) (lb.length+1) (lb.length+1)] 42),(b23,.cells (Mb (lb.length+1) (fun _=>0)) 3),(b22,.cells #[.slice (some ⟨b15,0,none⟩) (lb.length+1) (lb.length+1)] 42),(b15,.cells (Mb (lb.length+1) (fun _=>0)) 3),(b1,.cells #[.slice Aa la.length k1,.slice Ab lb.length k2,.slice (A18) (x+1) (c18),.slice AR x kR] 53)]++(p_18++(r_19++[]))) w:=hF
 refine Xe O (v:=.pointer (some ⟨b1,0,none⟩)) (Hd O) (trivial) ?_
 refine Db O (Ec Ci O) ?_
 refine Ad O 4 (l:=[.slice (A19) (x+1) (c19)]) (cs':=#[.slice Aa la.length k1,.slice Ab lb.length k2,.slice (A18) (x+1) (c18),.slice (A19) (x+1) (c19)]) hF sizeOf37 O (v:=.slice (A19) (x+1) (c19)) O O Ed O Kb O ?_
 clear hF; intro w hF hE
 replace hW:=hW.step hE Ma
 clear hE
 replace hF:FR w0 [] ([(b24,.cells #[.slice (some ⟨b23,0,none⟩) (lb.length+1) (lb.length+1)] 42),(b23,.cells (Mb (lb.length+1) (fun _=>0)) 3),(b22,.cells #[.slice (some ⟨b15,0,none⟩) (lb.length+1) (lb.length+1)] 42),(b15,.cells (Mb (lb.length+1) (fun _=>0)) 3),(b1,.cells #[.slice Aa la.length k1,.slice Ab lb.length k2,.slice (A18) (x+1) (c18),.slice (A19) (x+1) (c19)] 53)]++(p_18++(r_19++[]))) w:=hF
 refine Mc (Eb ?_)
 exact Ib ⟨(A18),(c18),(p_18),(A19),(c19),(r_19),(Vg q x b23),(Vg r x b15),(hS18_p),(hS19_r),(hW.put (hF.heap (i:=1) O) (hF.heap (i:=3) O) (hF.ge (i:=1) O) (hF.ge (i:=3) O) (by have h:=FR.apart (pre:=[_,_,_,_]) (rest:=[_]++(p_18++(r_19++[]))) (i:=1) hF O; simpa using h) (by have h:=FR.apart (pre:=[_,_,_,_]) (rest:=[_]++(p_18++(r_19++[]))) (i:=3) hF O; simpa using h) (Wi hF.desc (i:=1) (j:=3) O O Ua) hnb23 hnb15),Am,(((((hF.front 4 O).erase 1).erase 1).erase 1).erase 1)⟩
 clear hF; rintro σ w ⟨AS,kS,sp2,AT,kT,sr2,q2,r2,hSp2,hSr2,hW,hs,hF⟩
 refine Eg.slots hs ?_
 clear hs; intro σ
 refine Ga (Fa (Ca (If (((x+1:Nat):Int)) O O) (Ca (Va O) (Xa ?_))))
 refine Ib ⟨_,?_,x+1,AS,kS,sp2,AT,kT,sr2,q2,r2,O,U,(hSp2),(hSr2),(hW),Am,hF⟩
 omega
 refine Dc (Cc O ?_)
 refine Ga (Ha (Ha ?_))
 obtain rfl:x=la.length+1:=by omega
 obtain ⟨pb,cup,rfl,rfl,hcp⟩:=hSp.one U
 obtain ⟨rb,cur_,rfl,rfl,hcr⟩:=hSr.one U
 have hap:=FR.apart (pre:=[_]) (rest:=[_,_]) (i:=0) hF rfl
 have hpr:pb≠rb:=Wi hF.desc (i:=1) (j:=2) rfl rfl Ua
 simp only [List.map_cons,List.map_nil,List.mem_cons,List.not_mem_nil,or_false,not_or] at hap
 have hnq:=fun k hk=>(hW.rq.new k hk).2
 have hnr:=fun k hk=>(hW.rr.new k hk).2
 simp only [List.map_cons,List.map_nil,List.mem_append,List.mem_cons,List.not_mem_nil,or_false,not_or] at hnq hnr
 have hK:Ck w w0.heap.size b1 pb rb la lb Aa Ab k1 k2 kP kR q r (fun _ _=>0) (fun _ _=>0):=⟨hF.heap (i:=0) rfl,(hF.rep hLa.old).weaken (fun b hb _=>hb.2),(hF.rep hLb.old).weaken (fun b hb _=>hb.2),⟨⟨cup,hF.heap (i:=1) rfl,fun i hi=>by rw [hcp i (by simpa [Vh] using hi)]; simp [Vh]⟩,hW.rq.row,hW.rq.inj,fun i hi=>(hnq i hi).2.1⟩,⟨⟨cur_,hF.heap (i:=2) rfl,fun i hi=>by rw [hcr i (by simpa [Vh] using hi)]; simp [Vh]⟩,hW.rr.row,hW.rr.inj,fun i hi=>(hnr i hi).2.2⟩,⟨hF.ge (i:=0) rfl,hF.ge (i:=1) rfl,hF.ge (i:=2) rfl,fun i hi=>(hW.rq.new i hi).1,fun i hi=>(hW.rr.new i hi).1⟩,hnq,hnr,hW.ne⟩
 replace hF:=hF.clear
 clear hcp hcr hnq hnr hap hpr hW hSp hSr
 refine Fa (Ca (Yd O) (Ca (Df underlying47 O) (Ca (If (((la.length+1:Nat):Int)) O O) (Ca (Va O) (Ea (Ta ?_))))))
 refine Lc (fun μ σ w=>∃ (i:Nat),∃ (P:Nat→Nat→Int),∃ (R:Nat→Nat→Int),μ=la.length+1 - i∧(i≤la.length+1)∧(Ck w w0.heap.size b1 pb rb la lb Aa Ab k1 k2 kP kR q r P R)∧(RD la lb R i 0)∧(PD la lb P i 0)∧AllEq σ [(0,.slice Aa la.length k1),(1,.slice Ab lb.length k2),(5,.pointer (some ⟨b1,0,none⟩)),(46,.int .i64 (((la.length+1:Nat):Int))),(47,.int .i64 ((i:Int)))]∧FR w0 [] [] w) _ ⟨0,_,_,O,(Nat.zero_le _),(hK),(fun a b _ _ h=>by omega),(fun a b _ _ h=>by omega),Am,hF⟩ ?_
 clear hF; rintro μ σ w ⟨i,P,R,rfl,hi,hK,hRD,hPD,hs,hF⟩
 refine Cg.slots hs ?_
 clear hs; intro σ
 refine Ia (Ca (Yg O O) (Ea (Ha ?_)))
 refine Yb O O (fun hc1=>?_) (fun hc1=>?_)
 refine Qa (Ga (Ha (Ta (Ia (Ca (Va O) (Ca (Wb O) (Bc (Ca (Yd O) (Ca (Df underlying47 O) ?_)))))))))
 refine Ca (If (((lb.length+1:Nat):Int)) O O) (Ca (Va O) (Ea (Ta ?_)))
 refine Lc (fun μ σ w=>∃ (j:Nat),∃ (P:Nat→Nat→Int),∃ (R:Nat→Nat→Int),μ=lb.length+1 - j∧(j≤lb.length+1)∧(Ck w w0.heap.size b1 pb rb la lb Aa Ab k1 k2 kP kR q r P R)∧(RD la lb R i j)∧(PD la lb P i j)∧AllEq σ [(0,.slice Aa la.length k1),(1,.slice Ab lb.length k2),(5,.pointer (some ⟨b1,0,none⟩)),(6,.int .i64 ((i:Int))),(46,.int .i64 (((la.length+1:Nat):Int))),(47,.int .i64 ((i:Int))),(52,.int .i64 (((lb.length+1:Nat):Int))),(53,.int .i64 ((j:Int)))]∧FR w0 [] [] w) _ ⟨0,P,R,O,(Nat.zero_le _),(hK),(hRD),(hPD),K5,hF⟩ ?_
 clear hF; rintro μ σ w ⟨j,P,R,rfl,hj,hK,hRD,hPD,hs,hF⟩
 refine Cg.slots hs ?_
 clear hs; intro σ
 refine Ia (Ca (Yg O O) (Ea (Ha ?_)))
 refine Yb O O (fun hc2=>?_) (fun hc2=>?_)
 refine Qa (Ga (Ha (Ta (Ia (Ca (Va O) (Ca (Wb O) (Ea ?_)))))))
 refine Uc [25] (.free 0 (.free 1 (.free 2 (.free 3 (.free 4 (.free 5 (.free 6 (.free 7 (.free 8 (.free 9 (.free 10 (.free 11 (.free 12 (.free 13 (.free 14 (.free 15 (.free 16 (.free 17 (.free 18 (.free 19 (.free 20 (.free 21 (.free 22 (.act 23 (.free 24 (.act 25 .nil)))))))))))))))))))))))))) hF ?_
 clear hF; intro w hF hE
 replace hK:=hK.ext hE
 clear hE
 refine ⟨fun wq=>FR w0 [] _ wq∧∃ P_,Ck wq w0.heap.size b1 pb rb la lb Aa Ab k1 k2 kP kR q r P_ R,⟨hF,⟨_,hK⟩⟩,?_⟩
 refine Db O (Ue O) (Db O (Gg O) (Db O (Ec Ci O) ?_))
 refine Oa rfl (v:=.slice (some ⟨rb,0,none⟩) (la.length+1) (kR)) (fun w hC=>Ya isAgg37 rfl (by obtain ⟨_,h_⟩:=hC.2; exact h_.c3)) ?_
 refine Db O (Yd O) (Db O (Df underlying47 O) (Db O (Va O) (Db O (Hw (((la.length - i:Nat):Int)) O O) (Oa O (v:=.pointer (some ⟨rb,la.length - i,none⟩)) (fun w hC=>Gb (i:=((la.length - i:Nat):Int)) (la.length - i) Vj O O U U U) ?_))))
 refine Oa rfl (v:=.slice (some ⟨r (la.length - i),0,none⟩) (lb.length+1) (lb.length+1)) (fun w hC=>Ya isAgg42 rfl (by obtain ⟨_,h_⟩:=hC.2; exact h_.rest.rowCell U)) ?_
 refine Db O (Yd O) (Db O (Df underlying47 O) (Db O (Va O) (Db O (Hw (((lb.length - j:Nat):Int)) O O) (Db O (Ue O) (Db O (Yd O) (Db O (Df underlying47 O) (Db O (Va O) (Db O (Hw (((la.length - i:Nat):Int)) O O) (Db O (Yd O) (Db O (Df underlying47 O) (Db O (Va O) (Db O (Hw (((lb.length - j:Nat):Int)) O O) ?_))))))))))))
 refine Ye O (RN _ w0.heap.size b1 pb rb la lb Aa Ab k1 k2 kP kR q r P R hK (la.length - i) (lb.length - j) hll U U hF.same.size hRa hRb hla hlb (fun h=>hRD _ _ U U U) (fun h=>hRD _ _ U U U) (fun h h2=>hRD _ _ U U U)) (Gd JZ O O O O) ?_
 rintro _ w ⟨P2,rfl,hK2,hPn,hPo,hE⟩
 replace hF:=hF.touch hE (fun b hb=>by obtain ⟨i,hi,rfl⟩:=Ml.1 hb; exact ⟨fun h=>absurd h (by have:=hK.lo.2.2.2.1 i hi; omega),by simp⟩)
 clear hK hE
 have hK:=hK2
 clear hK2
 refine ⟨⟨hF,⟨_,hK⟩⟩,?_⟩
 refine Oa O (v:=.pointer (some ⟨r (la.length - i),lb.length - j,none⟩)) (fun w hC=>Gb (i:=((lb.length - j:Nat):Int)) (lb.length - j) Nd O O U U U) ?_
 refine Ht O hF sizeOf3 O O (hK.rest.row (la.length - i) U) U (.inr (hK.lo.2.2.2.2 _ U)) Ma ?_
 clear hF; intro w hF hE hnew
 replace hK:=hK.putR U hE hnew
 clear hE hnew
 refine Mc (Eb (Ga (Fa (Ca (If (((j+1:Nat):Int)) O O) (Ca (Va O) (Xa ?_))))))
 refine Ib ⟨_,?_,j+1,P2,_,O,U,(hK),(hRD.step U U),(hPD.step hPn hPo),K5,hF⟩
 omega
 refine Dc (Cc O ?_)
 refine Eb (Ga (Fa (Ca (If (((i+1:Nat):Int)) O O) (Ca (Va O) (Xa ?_)))))
 refine Ib ⟨_,?_,i+1,P,R,rfl,U,(hK),((by obtain rfl:j=lb.length+1:=U; exact hRD.row)),((by obtain rfl:j=lb.length+1:=U; exact hPD.row)),Am,hF⟩
 omega
 refine Dc (Cc O ?_)
 refine Ga (Ia (Ca (Ue O) (Ca (I_ O) (Ea ?_))))
 refine Td (v:=.pointer _) O O ?_
 obtain rfl:i=la.length+1:=by omega
 exact ⟨b1,pb,rb,kP,kR,q,r,P,R,O,hK,fun a b ha hb=>hRD a b ha hb U,fun a b h1 h2=>hPD a b h1 h2 U,hF.same⟩
end Go.Scarf
