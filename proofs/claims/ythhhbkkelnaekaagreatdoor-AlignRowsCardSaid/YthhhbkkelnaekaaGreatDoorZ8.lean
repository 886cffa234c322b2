/- A part of the proof. -/
import Derived.Test.YthhhbkkelnaekaaGreatDoorTb
import Derived.Test.YthhhbkkelnaekaaGreatDoorP3
import Derived.Test.YthhhbkkelnaekaaGreatDoorZ1
import Derived.Test.YthhhbkkelnaekaaGreatDoorW16
import Derived.Test.YthhhbkkelnaekaaGreatDoorBd
set_option linter.all false
set_option maxHeartbeats 8000000
set_option maxRecDepth 10000
namespace Go.Scarf
open Go.RowKit Go.Proofs Go.Proofs.Tryz
section
variable {w w' w0:World} {Ds E:List Nat} {bs_:List (Nat × Obj)} {B pb:Nat} {ls ls':List Str} {fs fs':List Int}
theorem Tb.made2 {A A':Option Addr} {c c':Nat} {sl sf:List (Nat × Obj)} (hF:FR w0 (Wk2 w0 B pb) ((bs_++[(pb,.cells #[.slice A ls.length c,.slice A' fs.length c'] 79)])++(sl++(sf++[]))) w) (hp:pb < B) (hB:B≤w0.heap.size)
    (hL:SlB 9 1 A ls.length c (Wu ls) sl) (hN:SlB 3 1 A' fs.length c' (Qr fs) sf):Tb w B pb ls fs:=by
  refine Tb.made hF hp (Nat.le_trans hB hF.same.size) hL hN fun q hq=>?_
  have hm:q∈(bs_++[(pb,Obj.cells #[.slice A ls.length c,.slice A' fs.length c'] 79)])++(sl++(sf++[])):=by
    rcases List.mem_append.1 hq with h | h <;> simp [h]
  have hne:q.1≠pb:=by
    have:=(List.pairwise_append.1 hF.desc).2.2 (pb,Obj.cells #[.slice A ls.length c,.slice A' fs.length c'] 79) Ma q (by rcases List.mem_append.1 hq with h | h <;> simp [h])
    exact this
  rcases (hF.own q hm).2 with h | h
  · omega
  · rcases Bk.1 h with h1 | ⟨-, h1, -⟩
    · exact absurd h1 hne
    · exact h1
def S0 (w0:World) (Ds:List Nat) (b:Nat):Prop:=b < w0.heap.size∧b∉Ds
theorem Rep.offS {d:D} {cs:List Value} (h:Rep (S0 w0 Ds) w d cs) (hB:TW w0 Ds w B pb ls fs) (hs:Same (Wk2 w B pb) w w'):Rep (S0 w0 Ds) w' d cs:=h.same hs fun b hb hn=>hn.2 (hB.sub b hb hn.1)
theorem Rep.toOff {d:D} {cs:List Value} (h:Rep (S0 w0 Ds) w d cs) (hB:TW w0 Ds w B pb ls fs):Rep (fun b=>b∉Wk2 w B pb) w d cs:=h.weaken fun b hb _ hm=>hb.2 (hB.sub b hm hb.1)
theorem Rep.toS0 {d:D} {cs:List Value} (h:Rep (fun b=>b∉Wk2 w0 B pb) w0 d cs):Rep (S0 w0 (Wk2 w0 B pb)) w0 d cs:=h.old.weaken fun b hb _=>⟨hb.2,hb.1⟩
theorem T4 {b:Nat} {o:Obj} (h:w.heap[b]? = some o) (hr:Y5 o=false) (hb:b≠pb) (hs:Same (Wk2 w B pb) w w'):w'.heap[b]? = some o:=by
  refine (hs.block b (Ra h) fun hm=>?_).trans h
  rcases Bk.1 hm with h1 | ⟨-,-,h1⟩
  · exact hb h1
  · rw [To h,hr] at h1; cases h1
theorem Jm {b:Nat} {o:Obj} (h:w.heap[b]? = some o) (hs:Same [] w w'):w'.heap[b]? = some o:=(hs.block b (Ra h) Ma).trans h
theorem Gl.wrote2 (h:Gl w0) (hs:Same (Wk2 w0 B pb) w0 w) (hb:8≤B) (hp:8≤pb):Gl w:=h.same hs fun x hx=>by
  rcases Bk.1 hx with rfl | ⟨-,h1,-⟩ <;> omega
end
theorem DH (x:Tree) (S:Nat→Prop) (w0:World) (cs:List Value) (hR:Rep S w0 (Vc x) cs) (hG:Gl w0) (hsz:Oc x≤1000000000) (hm:Lf x≤1073741824):Calls prog 68 #[.agg cs.toArray] w0 (De fun v w'=>v=.string (bs (Tg x))∧Same [] w0 w'):=by
 have hl:cs.length=4:=hR.length.trans (Dd x)
 have ho:=hR.one_
 refine Ka func68 O ntmps68 Kb (Sc _) ?_
 have hF:=FR.start w0 []
 refine Ia ?_
 refine Io (v:=.agg (List.toArray cs)) (cs:=(List.toArray cs)) hF O O ?_
 clear hF; rintro b1 w hb1 hF -
 refine Ca (Rd O) (Bc (Ja (v:=.agg (List.toArray cs)) (Fc (l:=cs) isAgg27 sizeOf27 O hl (hF.cellsAll 0 O)) ?_))
 refine Jb hF (XX x _ _ cs (hF.rep hR) (hG.ext hF.same) hsz hm) (Cb en_96 O O) ?_
 clear hF; intro w hF
 refine Ca (Ul O) (Ca (D7 O O) (Ca (Fm O O) (Ca (Rd O) (Ca (Wb O) (Bc (Ca (Qc O) (Ca (Rd O) (Ea ?_))))))))
 refine Td (v:=.string (bs (Tg x))) O O ?_
 exact ⟨O,hF.same⟩
theorem GI (w0:World) (B pb K:Nat) (caps:Array Value) (hen:Ob prog K) (ls ls':List Str) (fs fs':List Int) (lab:Str) (hT:Tb w0 B pb ls fs) (hkids:Calls prog K caps w0 (De fun v w'=>v=.tuple #[]∧Tb w' B pb (ls') (fs')∧Same (Wk2 w0 B pb) w0 w')) (hl1:ls'.length≤512) (hl2:fs'.length≤512):Calls prog 65 #[.pointer (some ⟨pb,0,none⟩),.string (bs lab),.func (.func K) #[] caps] w0 (De fun v w'=>v=.tuple #[]∧Tb w' B pb (ls'++[lab]) (fs'++[(ls.length:Int)])∧Same (Wk2 w0 B pb) w0 w'):=by
 refine Ka func65 O ntmps65 Kb (Dp _ _ _) ?_
 have hB:=TW.start hT
 have hF:=FR.start w0 (Wk2 w0 B pb)
 obtain ⟨P0,q0,P9,q9,hpb⟩:=hT.len
 refine Ia (Ca (Ue O) (Ca (Gg O) (Ca (Ec Sg O) (Ca (Ec Xc O) (Ja (v:=.slice P0 ls.length q0) (Ya isAgg25 O (Ac hpb 0)) (Ca (Df underlying25 O) (Ca (Wb O) (Bc (Ca (XC) ?_)))))))))
 refine Pb hkids (TM O hen Ma) ?_
 rintro _ w ⟨rfl,hT2,hE⟩
 replace hF:=hF.wrote2 hB hE Ma
 replace hB:=hB.wrote hT2 hE
 clear hE
 obtain ⟨P1,q1,sl,P2,q2,sf,hL,hN,hF2,-⟩:=hB.open_ hF Ma
 clear hF
 have hF:FR w0 (Wk2 w0 B pb) ([(pb,.cells #[.slice P1 ls'.length q1,.slice P2 fs'.length q2] 79)]++(sl++(sf++[]))) w:=hF2
 clear hF2
 refine Bc (Ca (Ue O) (Ca (Gg O) (Ca (Ec Sg O) (Ca (Ec Xc O) (Tc (Mf isAgg25 O hF.F 0 O O) (Ca (Df underlying25 O) (Ja (v:=.bool true) (Ce (BU O O) U) (Ea (Ae O ?_)))))))))
 refine Uc [25] (.free 0 (.free 1 (.free 2 (.free 3 (.free 4 (.free 5 (.free 7 (.free 10 (.free 11 (.free 12 (.free 13 (.free 14 (.free 15 (.alt 6 (.alt 8 (.alt 9 (.act 16 (.act 17 (.free 18 (.free 19 (.free 20 (.act 21 (.act 22 (.act 23 (.free 24 (.act 25 .nil)))))))))) (.act 16 (.act 9 (.act 17 (.free 18 (.free 19 (.free 20 (.act 21 (.act 22 (.act 23 (.free 24 (.act 25 .nil)))))))))))) (.act 16 (.act 8 (.act 9 (.act 17 (.free 18 (.free 19 (.free 20 (.act 21 (.act 22 (.act 23 (.free 24 (.act 25 .nil))))))))))))) (.alt 8 (.alt 6 (.alt 9 (.act 16 (.act 17 (.free 18 (.free 19 (.free 20 (.act 21 (.act 22 (.act 23 (.free 24 (.act 25 .nil)))))))))) (.act 16 (.act 9 (.act 17 (.free 18 (.free 19 (.free 20 (.act 21 (.act 22 (.act 23 (.free 24 (.act 25 .nil)))))))))))) (.act 16 (.act 6 (.act 9 (.act 17 (.free 18 (.free 19 (.free 20 (.act 21 (.act 22 (.act 23 (.free 24 (.act 25 .nil))))))))))))) (.act 16 (.alt 6 (.act 8 (.act 9 (.act 17 (.free 18 (.free 19 (.free 20 (.act 21 (.act 22 (.act 23 (.free 24 (.act 25 .nil))))))))))) (.act 8 (.act 6 (.act 9 (.act 17 (.free 18 (.free 19 (.free 20 (.act 21 (.act 22 (.act 23 (.free 24 (.act 25 .nil))))))))))))))))))))))))))))) hF ?_
 clear hF; rintro w hF -
 refine ⟨fun wq=>FR w0 (Wk2 w0 B pb) [] wq∧wq.cell? ⟨pb,1,none⟩=some (.slice P2 fs'.length q2),⟨hF.sub (.cons _ (List.nil_sublist _)),hF.cell 0 O O⟩,?_⟩
 refine Db O (Ue O) (Db O (Ue O) (Db O (Ue O) (Db O (Gg O) (Db O (Ec Sg O) (Db O (Ec Xc O) (Db O (Qc O) (Db O (Ue O) (Db O (Gg O) (Db O (Ec Sg O) (Db O (Ec Qd O) (Oa O (v:=.slice P2 fs'.length q2) (fun w hC=>Ya isAgg42 O hC.2) (Db O (Va O) ?_))))))))))))
 refine Mk ?_ ?_
 refine Xe O (v:=.slice P1 ls'.length q1) (Ya isAgg25 O (hF.cell 0 O O)) (⟨hF.sub (.cons _ (List.nil_sublist _)),hF.cell 0 O O⟩) ?_
 refine Mk ?_ ?_
 refine Ge 1 O hF (Za (cs:=#[.string (bs lab)]) underlying25 sizeOf9 zeroValue9 Ua Ua Qb) ?_
 clear hF; rintro b1 w hb1 hF -
 refine ⟨⟨hF.sub (.cons _ (.cons _ (List.nil_sublist _))),hF.cell 1 O O⟩,?_⟩
 refine Mk ?_ ?_
 refine Rc [(b1,.cells #[.string (bs lab)] 9),(pb,.cells #[.slice P1 ls'.length q1,.slice P2 fs'.length q2] 79)] (sf++[]) (news:=[.string (bs lab)]) (len':=(ls'++[lab]).length) (ys:=Wu (ls'++[lab])) O Zm hF hL O O (O) (fun _=>⟨_,O,Xb (hF.cellsAll 0 O)⟩) (by simp [Value.oneCell']) (by simp only [maxLen]; omega) Ma (by simp [Wu]) U ?_
 clear hF; intro A0 c0 L_0 w hS0_L hF hE hnew
 clear hE hnew
 refine ⟨⟨hF.sub (.cons _ (.cons _ (List.nil_sublist _))),hF.cell 1 O O⟩,?_⟩
 refine Ge 1 O hF (Za (cs:=#[.int .i64 ((ls.length:Nat))]) underlying42 sizeOf3 zeroValue3 Ua Ua Qb) ?_
 clear hF; rintro b2 w hb2 hF -
 refine ⟨⟨hF.sub (.cons _ (.cons _ (.cons _ (List.nil_sublist _)))),hF.cell 2 O O⟩,?_⟩
 refine Rc ([(b2,.cells #[.int .i64 ((ls.length:Nat))] 3),(b1,.cells #[.string (bs lab)] 9),(pb,.cells #[.slice P1 ls'.length q1,.slice P2 fs'.length q2] 79)]++L_0) [] (news:=[.int .i64 ((ls.length:Nat))]) (len':=(fs'++[(ls.length:Int)]).length) (ys:=Qr (fs'++[(ls.length:Int)])) O Wh hF hN O O (O) (fun _=>⟨_,O,Xb (hF.cellsAll 0 O)⟩) (by simp [Value.oneCell']) (by simp only [maxLen]; omega) Ma (by simp [Qr]) U ?_
 clear hF; intro A1 c1 N_1 w hS1_N hF hE hnew
 clear hE hnew
 refine ⟨⟨hF.sub (.cons _ (.cons _ (.cons _ (List.nil_sublist _)))),hF.cell 2 O O⟩,?_⟩
 refine Db O (Gg O) (Db O (Ec Sg O) (Db O (Ec Xc O) ?_))
 refine Rm O 2 (l:=[.slice (A0) ((ls'++[lab]).length) (c0)]) (cs':=#[.slice (A0) ((ls'++[lab]).length) (c0),.slice P2 fs'.length q2]) hF sizeOf25 O (v:=.slice (A0) ((ls'++[lab]).length) (c0)) O O Ed O Kb O ?_
 clear hF; rintro w hF -
 replace hF:FR w0 (Wk2 w0 B pb) ([(b2,.cells #[.int .i64 ((ls.length:Nat))] 3),(b1,.cells #[.string (bs lab)] 9),(pb,.cells #[.slice (A0) ((ls'++[lab]).length) (c0),.slice P2 fs'.length q2] 79)]++(L_0++(N_1++[]))) w:=hF
 refine ⟨⟨hF.sub (.cons _ (.cons _ (.cons _ (List.nil_sublist _)))),hF.cell 2 O O⟩,?_⟩
 refine Xe O (v:=.pointer (some ⟨pb,0,none⟩)) (Hd O) (⟨hF.sub (.cons _ (.cons _ (.cons _ (List.nil_sublist _)))),hF.cell 2 O O⟩) ?_
 refine Xe O (v:=.pointer (some ⟨pb,0,none⟩)) (Lh Sg O) (⟨hF.sub (.cons _ (.cons _ (.cons _ (List.nil_sublist _)))),hF.cell 2 O O⟩) ?_
 refine Db O (Ec Qd O) ?_
 refine Ad O 2 (l:=[.slice (A1) ((fs'++[(ls.length:Int)]).length) (c1)]) (cs':=#[.slice (A0) ((ls'++[lab]).length) (c0),.slice (A1) ((fs'++[(ls.length:Int)]).length) (c1)]) hF sizeOf42 O (v:=.slice (A1) ((fs'++[(ls.length:Int)]).length) (c1)) O O Ed O Kb O ?_
 clear hF; rintro w hF -
 replace hF:FR w0 (Wk2 w0 B pb) ([(b2,.cells #[.int .i64 ((ls.length:Nat))] 3),(b1,.cells #[.string (bs lab)] 9),(pb,.cells #[.slice (A0) ((ls'++[lab]).length) (c0),.slice (A1) ((fs'++[(ls.length:Int)]).length) (c1)] 79)]++(L_0++(N_1++[]))) w:=hF
 refine Mc ?_
 refine Sf (Wd (Ih O) ?_)
 exact ⟨O,Tb.made2 (bs_:=[_,_]) (sl:=L_0) (sf:=N_1) hF hT.lt hT.le hS0_L hS1_N,hF.same⟩
 refine Ge 1 O hF (Za (cs:=#[.int .i64 ((ls.length:Nat))]) underlying42 sizeOf3 zeroValue3 Ua Ua Qb) ?_
 clear hF; rintro b3 w hb3 hF -
 refine ⟨⟨hF.sub (.cons _ (.cons _ (.cons _ (List.nil_sublist _)))),hF.cell 2 O O⟩,?_⟩
 refine Rc [(b3,.cells #[.int .i64 ((ls.length:Nat))] 3),(b1,.cells #[.string (bs lab)] 9),(pb,.cells #[.slice P1 ls'.length q1,.slice P2 fs'.length q2] 79)] (sf++[]) (news:=[.string (bs lab)]) (len':=(ls'++[lab]).length) (ys:=Wu (ls'++[lab])) O Zm hF hL O O (O) (fun _=>⟨_,O,Xb (hF.cellsAll 1 O)⟩) (by simp [Value.oneCell']) (by simp only [maxLen]; omega) Ma (by simp [Wu]) U ?_
 clear hF; intro A2 c2 L_2 w hS2_L hF hE hnew
 clear hE hnew
 refine ⟨⟨hF.sub (.cons _ (.cons _ (.cons _ (List.nil_sublist _)))),hF.cell 2 O O⟩,?_⟩
 refine Rc ([(b3,.cells #[.int .i64 ((ls.length:Nat))] 3),(b1,.cells #[.string (bs lab)] 9),(pb,.cells #[.slice P1 ls'.length q1,.slice P2 fs'.length q2] 79)]++L_2) [] (news:=[.int .i64 ((ls.length:Nat))]) (len':=(fs'++[(ls.length:Int)]).length) (ys:=Qr (fs'++[(ls.length:Int)])) O Wh hF hN O O (O) (fun _=>⟨_,O,Xb (hF.cellsAll 0 O)⟩) (by simp [Value.oneCell']) (by simp only [maxLen]; omega) Ma (by simp [Qr]) U ?_
 clear hF; intro A3 c3 N_3 w hS3_N hF hE hnew
 clear hE hnew
 refine ⟨⟨hF.sub (.cons _ (.cons _ (.cons _ (List.nil_sublist _)))),hF.cell 2 O O⟩,?_⟩
 refine Db O (Gg O) (Db O (Ec Sg O) (Db O (Ec Xc O) ?_))
 refine Rm O 2 (l:=[.slice (A2) ((ls'++[lab]).length) (c2)]) (cs':=#[.slice (A2) ((ls'++[lab]).length) (c2),.slice P2 fs'.length q2]) hF sizeOf25 O (v:=.slice (A2) ((ls'++[lab]).length) (c2)) O O Ed O Kb O ?_
 clear hF; rintro w hF -
 replace hF:FR w0 (Wk2 w0 B pb) ([(b3,.cells #[.int .i64 ((ls.length:Nat))] 3),(b1,.cells #[.string (bs lab)] 9),(pb,.cells #[.slice (A2) ((ls'++[lab]).length) (c2),.slice P2 fs'.length q2] 79)]++(L_2++(N_3++[]))) w:=hF
 refine ⟨⟨hF.sub (.cons _ (.cons _ (.cons _ (List.nil_sublist _)))),hF.cell 2 O O⟩,?_⟩
 refine Xe O (v:=.pointer (some ⟨pb,0,none⟩)) (Hd O) (⟨hF.sub (.cons _ (.cons _ (.cons _ (List.nil_sublist _)))),hF.cell 2 O O⟩) ?_
 refine Xe O (v:=.pointer (some ⟨pb,0,none⟩)) (Lh Sg O) (⟨hF.sub (.cons _ (.cons _ (.cons _ (List.nil_sublist _)))),hF.cell 2 O O⟩) ?_
 refine Db O (Ec Qd O) ?_
 refine Ad O 2 (l:=[.slice (A3) ((fs'++[(ls.length:Int)]).length) (c3)]) (cs':=#[.slice (A2) ((ls'++[lab]).length) (c2),.slice (A3) ((fs'++[(ls.length:Int)]).length) (c3)]) hF sizeOf42 O (v:=.slice (A3) ((fs'++[(ls.length:Int)]).length) (c3)) O O Ed O Kb O ?_
 clear hF; rintro w hF -
 replace hF:FR w0 (Wk2 w0 B pb) ([(b3,.cells #[.int .i64 ((ls.length:Nat))] 3),(b1,.cells #[.string (bs lab)] 9),(pb,.cells #[.slice (A2) ((ls'++[lab]).length) (c2),.slice (A3) ((fs'++[(ls.length:Int)]).length) (c3)] 79)]++(L_2++(N_3++[]))) w:=hF
 refine Mc ?_
 refine Sf (Wd (Ih O) ?_)
 exact ⟨O,Tb.made2 (bs_:=[_,_]) (sl:=L_2) (sf:=N_3) hF hT.lt hT.le hS2_L hS3_N,hF.same⟩
 refine Ge 1 O hF (Za (cs:=#[.int .i64 ((ls.length:Nat))]) underlying42 sizeOf3 zeroValue3 Ua Ua Qb) ?_
 clear hF; rintro b4 w hb4 hF -
 refine ⟨⟨hF.sub (.cons _ (.cons _ (List.nil_sublist _))),hF.cell 1 O O⟩,?_⟩
 refine Ge 1 O hF (Za (cs:=#[.string (bs lab)]) underlying25 sizeOf9 zeroValue9 Ua Ua Qb) ?_
 clear hF; rintro b5 w hb5 hF -
 refine ⟨⟨hF.sub (.cons _ (.cons _ (.cons _ (List.nil_sublist _)))),hF.cell 2 O O⟩,?_⟩
 refine Rc [(b5,.cells #[.string (bs lab)] 9),(b4,.cells #[.int .i64 ((ls.length:Nat))] 3),(pb,.cells #[.slice P1 ls'.length q1,.slice P2 fs'.length q2] 79)] (sf++[]) (news:=[.string (bs lab)]) (len':=(ls'++[lab]).length) (ys:=Wu (ls'++[lab])) O Zm hF hL O O (O) (fun _=>⟨_,O,Xb (hF.cellsAll 0 O)⟩) (by simp [Value.oneCell']) (by simp only [maxLen]; omega) Ma (by simp [Wu]) U ?_
 clear hF; intro A4 c4 L_4 w hS4_L hF hE hnew
 clear hE hnew
 refine ⟨⟨hF.sub (.cons _ (.cons _ (.cons _ (List.nil_sublist _)))),hF.cell 2 O O⟩,?_⟩
 refine Rc ([(b5,.cells #[.string (bs lab)] 9),(b4,.cells #[.int .i64 ((ls.length:Nat))] 3),(pb,.cells #[.slice P1 ls'.length q1,.slice P2 fs'.length q2] 79)]++L_4) [] (news:=[.int .i64 ((ls.length:Nat))]) (len':=(fs'++[(ls.length:Int)]).length) (ys:=Qr (fs'++[(ls.length:Int)])) O Wh hF hN O O (O) (fun _=>⟨_,O,Xb (hF.cellsAll 1 O)⟩) (by simp [Value.oneCell']) (by simp only [maxLen]; omega) Ma (by simp [Qr]) U ?_
 clear hF; intro A5 c5 N_5 w hS5_N hF hE hnew
 clear hE hnew
 refine ⟨⟨hF.sub (.cons _ (.cons _ (.cons _ (List.nil_sublist _)))),hF.cell 2 O O⟩,?_⟩
 refine Db O (Gg O) (Db O (Ec Sg O) (Db O (Ec Xc O) ?_))
 refine Rm O 2 (l:=[.slice (A4) ((ls'++[lab]).length) (c4)]) (cs':=#[.slice (A4) ((ls'++[lab]).length) (c4),.slice P2 fs'.length q2]) hF sizeOf25 O (v:=.slice (A4) ((ls'++[lab]).length) (c4)) O O Ed O Kb O ?_
 clear hF; rintro w hF -
 replace hF:FR w0 (Wk2 w0 B pb) ([(b5,.cells #[.string (bs lab)] 9),(b4,.cells #[.int .i64 ((ls.length:Nat))] 3),(pb,.cells #[.slice (A4) ((ls'++[lab]).length) (c4),.slice P2 fs'.length q2] 79)]++(L_4++(N_5++[]))) w:=hF
 refine ⟨⟨hF.sub (.cons _ (.cons _ (.cons _ (List.nil_sublist _)))),hF.cell 2 O O⟩,?_⟩
 refine Xe O (v:=.pointer (some ⟨pb,0,none⟩)) (Hd O) (⟨hF.sub (.cons _ (.cons _ (.cons _ (List.nil_sublist _)))),hF.cell 2 O O⟩) ?_
 refine Xe O (v:=.pointer (some ⟨pb,0,none⟩)) (Lh Sg O) (⟨hF.sub (.cons _ (.cons _ (.cons _ (List.nil_sublist _)))),hF.cell 2 O O⟩) ?_
 refine Db O (Ec Qd O) ?_
 refine Ad O 2 (l:=[.slice (A5) ((fs'++[(ls.length:Int)]).length) (c5)]) (cs':=#[.slice (A4) ((ls'++[lab]).length) (c4),.slice (A5) ((fs'++[(ls.length:Int)]).length) (c5)]) hF sizeOf42 O (v:=.slice (A5) ((fs'++[(ls.length:Int)]).length) (c5)) O O Ed O Kb O ?_
 clear hF; rintro w hF -
 replace hF:FR w0 (Wk2 w0 B pb) ([(b5,.cells #[.string (bs lab)] 9),(b4,.cells #[.int .i64 ((ls.length:Nat))] 3),(pb,.cells #[.slice (A4) ((ls'++[lab]).length) (c4),.slice (A5) ((fs'++[(ls.length:Int)]).length) (c5)] 79)]++(L_4++(N_5++[]))) w:=hF
 refine Mc ?_
 refine Sf (Wd (Ih O) ?_)
 exact ⟨O,Tb.made2 (bs_:=[_,_]) (sl:=L_4) (sf:=N_5) hF hT.lt hT.le hS4_L hS5_N,hF.same⟩
 refine Mk ?_ ?_
 refine Ge 1 O hF (Za (cs:=#[.string (bs lab)]) underlying25 sizeOf9 zeroValue9 Ua Ua Qb) ?_
 clear hF; rintro b6 w hb6 hF -
 refine ⟨⟨hF.sub (.cons _ (.cons _ (List.nil_sublist _))),hF.cell 1 O O⟩,?_⟩
 refine Mk ?_ ?_
 refine Xe O (v:=.slice P1 ls'.length q1) (Ya isAgg25 O (hF.cell 1 O O)) (⟨hF.sub (.cons _ (.cons _ (List.nil_sublist _))),hF.cell 1 O O⟩) ?_
 refine Mk ?_ ?_
 refine Rc [(b6,.cells #[.string (bs lab)] 9),(pb,.cells #[.slice P1 ls'.length q1,.slice P2 fs'.length q2] 79)] (sf++[]) (news:=[.string (bs lab)]) (len':=(ls'++[lab]).length) (ys:=Wu (ls'++[lab])) O Zm hF hL O O (O) (fun _=>⟨_,O,Xb (hF.cellsAll 0 O)⟩) (by simp [Value.oneCell']) (by simp only [maxLen]; omega) Ma (by simp [Wu]) U ?_
 clear hF; intro A6 c6 L_6 w hS6_L hF hE hnew
 clear hE hnew
 refine ⟨⟨hF.sub (.cons _ (.cons _ (List.nil_sublist _))),hF.cell 1 O O⟩,?_⟩
 refine Ge 1 O hF (Za (cs:=#[.int .i64 ((ls.length:Nat))]) underlying42 sizeOf3 zeroValue3 Ua Ua Qb) ?_
 clear hF; rintro b7 w hb7 hF -
 refine ⟨⟨hF.sub (.cons _ (.cons _ (.cons _ (List.nil_sublist _)))),hF.cell 2 O O⟩,?_⟩
 refine Rc ([(b7,.cells #[.int .i64 ((ls.length:Nat))] 3),(b6,.cells #[.string (bs lab)] 9),(pb,.cells #[.slice P1 ls'.length q1,.slice P2 fs'.length q2] 79)]++L_6) [] (news:=[.int .i64 ((ls.length:Nat))]) (len':=(fs'++[(ls.length:Int)]).length) (ys:=Qr (fs'++[(ls.length:Int)])) O Wh hF hN O O (O) (fun _=>⟨_,O,Xb (hF.cellsAll 0 O)⟩) (by simp [Value.oneCell']) (by simp only [maxLen]; omega) Ma (by simp [Qr]) U ?_
 clear hF; intro A7 c7 N_7 w hS7_N hF hE hnew
 clear hE hnew
 refine ⟨⟨hF.sub (.cons _ (.cons _ (.cons _ (List.nil_sublist _)))),hF.cell 2 O O⟩,?_⟩
 refine Db O (Gg O) (Db O (Ec Sg O) (Db O (Ec Xc O) ?_))
 refine Rm O 2 (l:=[.slice (A6) ((ls'++[lab]).length) (c6)]) (cs':=#[.slice (A6) ((ls'++[lab]).length) (c6),.slice P2 fs'.length q2]) hF sizeOf25 O (v:=.slice (A6) ((ls'++[lab]).length) (c6)) O O Ed O Kb O ?_
 clear hF; rintro w hF -
 replace hF:FR w0 (Wk2 w0 B pb) ([(b7,.cells #[.int .i64 ((ls.length:Nat))] 3),(b6,.cells #[.string (bs lab)] 9),(pb,.cells #[.slice (A6) ((ls'++[lab]).length) (c6),.slice P2 fs'.length q2] 79)]++(L_6++(N_7++[]))) w:=hF
 refine ⟨⟨hF.sub (.cons _ (.cons _ (.cons _ (List.nil_sublist _)))),hF.cell 2 O O⟩,?_⟩
 refine Xe O (v:=.pointer (some ⟨pb,0,none⟩)) (Hd O) (⟨hF.sub (.cons _ (.cons _ (.cons _ (List.nil_sublist _)))),hF.cell 2 O O⟩) ?_
 refine Xe O (v:=.pointer (some ⟨pb,0,none⟩)) (Lh Sg O) (⟨hF.sub (.cons _ (.cons _ (.cons _ (List.nil_sublist _)))),hF.cell 2 O O⟩) ?_
 refine Db O (Ec Qd O) ?_
 refine Ad O 2 (l:=[.slice (A7) ((fs'++[(ls.length:Int)]).length) (c7)]) (cs':=#[.slice (A6) ((ls'++[lab]).length) (c6),.slice (A7) ((fs'++[(ls.length:Int)]).length) (c7)]) hF sizeOf42 O (v:=.slice (A7) ((fs'++[(ls.length:Int)]).length) (c7)) O O Ed O Kb O ?_
 clear hF; rintro w hF -
 replace hF:FR w0 (Wk2 w0 B pb) ([(b7,.cells #[.int .i64 ((ls.length:Nat))] 3),(b6,.cells #[.string (bs lab)] 9),(pb,.cells #[.slice (A6) ((ls'++[lab]).length) (c6),.slice (A7) ((fs'++[(ls.length:Int)]).length) (c7)] 79)]++(L_6++(N_7++[]))) w:=hF
 refine Mc ?_
 refine Sf (Wd (Ih O) ?_)
 exact ⟨O,Tb.made2 (bs_:=[_,_]) (sl:=L_6) (sf:=N_7) hF hT.lt hT.le hS6_L hS7_N,hF.same⟩
 refine Ge 1 O hF (Za (cs:=#[.int .i64 ((ls.length:Nat))]) underlying42 sizeOf3 zeroValue3 Ua Ua Qb) ?_
 clear hF; rintro b8 w hb8 hF -
 refine ⟨⟨hF.sub (.cons _ (.cons _ (.cons _ (List.nil_sublist _)))),hF.cell 2 O O⟩,?_⟩
 refine Rc [(b8,.cells #[.int .i64 ((ls.length:Nat))] 3),(b6,.cells #[.string (bs lab)] 9),(pb,.cells #[.slice P1 ls'.length q1,.slice P2 fs'.length q2] 79)] (sf++[]) (news:=[.string (bs lab)]) (len':=(ls'++[lab]).length) (ys:=Wu (ls'++[lab])) O Zm hF hL O O (O) (fun _=>⟨_,O,Xb (hF.cellsAll 1 O)⟩) (by simp [Value.oneCell']) (by simp only [maxLen]; omega) Ma (by simp [Wu]) U ?_
 clear hF; intro A8 c8 L_8 w hS8_L hF hE hnew
 clear hE hnew
 refine ⟨⟨hF.sub (.cons _ (.cons _ (.cons _ (List.nil_sublist _)))),hF.cell 2 O O⟩,?_⟩
 refine Rc ([(b8,.cells #[.int .i64 ((ls.length:Nat))] 3),(b6,.cells #[.string (bs lab)] 9),(pb,.cells #[.slice P1 ls'.length q1,.slice P2 fs'.length q2] 79)]++L_8) [] (news:=[.int .i64 ((ls.length:Nat))]) (len':=(fs'++[(ls.length:Int)]).length) (ys:=Qr (fs'++[(ls.length:Int)])) O Wh hF hN O O (O) (fun _=>⟨_,O,Xb (hF.cellsAll 0 O)⟩) (by simp [Value.oneCell']) (by simp only [maxLen]; omega) Ma (by simp [Qr]) U ?_
 clear hF; intro A9 c9 N_9 w hS9_N hF hE hnew
 clear hE hnew
 refine ⟨⟨hF.sub (.cons _ (.cons _ (.cons _ (List.nil_sublist _)))),hF.cell 2 O O⟩,?_⟩
 refine Db O (Gg O) (Db O (Ec Sg O) (Db O (Ec Xc O) ?_))
 refine Rm O 2 (l:=[.slice (A8) ((ls'++[lab]).length) (c8)]) (cs':=#[.slice (A8) ((ls'++[lab]).length) (c8),.slice P2 fs'.length q2]) hF sizeOf25 O (v:=.slice (A8) ((ls'++[lab]).length) (c8)) O O Ed O Kb O ?_
 clear hF; rintro w hF -
 replace hF:FR w0 (Wk2 w0 B pb) ([(b8,.cells #[.int .i64 ((ls.length:Nat))] 3),(b6,.cells #[.string (bs lab)] 9),(pb,.cells #[.slice (A8) ((ls'++[lab]).length) (c8),.slice P2 fs'.length q2] 79)]++(L_8++(N_9++[]))) w:=hF
 refine ⟨⟨hF.sub (.cons _ (.cons _ (.cons _ (List.nil_sublist _)))),hF.cell 2 O O⟩,?_⟩
 refine Xe O (v:=.pointer (some ⟨pb,0,none⟩)) (Hd O) (⟨hF.sub (.cons _ (.cons _ (.cons _ (List.nil_sublist _)))),hF.cell 2 O O⟩) ?_
 refine Xe O (v:=.pointer (some ⟨pb,0,none⟩)) (Lh Sg O) (⟨hF.sub (.cons _ (.cons _ (.cons _ (List.nil_sublist _)))),hF.cell 2 O O⟩) ?_
 refine Db O (Ec Qd O) ?_
 refine Ad O 2 (l:=[.slice (A9) ((fs'++[(ls.length:Int)]).length) (c9)]) (cs':=#[.slice (A8) ((ls'++[lab]).length) (c8),.slice (A9) ((fs'++[(ls.length:Int)]).length) (c9)]) hF sizeOf42 O (v:=.slice (A9) ((fs'++[(ls.length:Int)]).length) (c9)) O O Ed O Kb O ?_
 clear hF; rintro w hF -
 replace hF:FR w0 (Wk2 w0 B pb) ([(b8,.cells #[.int .i64 ((ls.length:Nat))] 3),(b6,.cells #[.string (bs lab)] 9),(pb,.cells #[.slice (A8) ((ls'++[lab]).length) (c8),.slice (A9) ((fs'++[(ls.length:Int)]).length) (c9)] 79)]++(L_8++(N_9++[]))) w:=hF
 refine Mc ?_
 refine Sf (Wd (Ih O) ?_)
 exact ⟨O,Tb.made2 (bs_:=[_,_]) (sl:=L_8) (sf:=N_9) hF hT.lt hT.le hS8_L hS9_N,hF.same⟩
 refine Ge 1 O hF (Za (cs:=#[.int .i64 ((ls.length:Nat))]) underlying42 sizeOf3 zeroValue3 Ua Ua Qb) ?_
 clear hF; rintro b9 w hb9 hF -
 refine ⟨⟨hF.sub (.cons _ (.cons _ (.cons _ (List.nil_sublist _)))),hF.cell 2 O O⟩,?_⟩
 refine Xe O (v:=.slice P1 ls'.length q1) (Ya isAgg25 O (hF.cell 2 O O)) (⟨hF.sub (.cons _ (.cons _ (.cons _ (List.nil_sublist _)))),hF.cell 2 O O⟩) ?_
 refine Rc [(b9,.cells #[.int .i64 ((ls.length:Nat))] 3),(b6,.cells #[.string (bs lab)] 9),(pb,.cells #[.slice P1 ls'.length q1,.slice P2 fs'.length q2] 79)] (sf++[]) (news:=[.string (bs lab)]) (len':=(ls'++[lab]).length) (ys:=Wu (ls'++[lab])) O Zm hF hL O O (O) (fun _=>⟨_,O,Xb (hF.cellsAll 1 O)⟩) (by simp [Value.oneCell']) (by simp only [maxLen]; omega) Ma (by simp [Wu]) U ?_
 clear hF; intro A10 c10 L_10 w hS10_L hF hE hnew
 clear hE hnew
 refine ⟨⟨hF.sub (.cons _ (.cons _ (.cons _ (List.nil_sublist _)))),hF.cell 2 O O⟩,?_⟩
 refine Rc ([(b9,.cells #[.int .i64 ((ls.length:Nat))] 3),(b6,.cells #[.string (bs lab)] 9),(pb,.cells #[.slice P1 ls'.length q1,.slice P2 fs'.length q2] 79)]++L_10) [] (news:=[.int .i64 ((ls.length:Nat))]) (len':=(fs'++[(ls.length:Int)]).length) (ys:=Qr (fs'++[(ls.length:Int)])) O Wh hF hN O O (O) (fun _=>⟨_,O,Xb (hF.cellsAll 0 O)⟩) (by simp [Value.oneCell']) (by simp only [maxLen]; omega) Ma (by simp [Qr]) U ?_
 clear hF; intro A11 c11 N_11 w hS11_N hF hE hnew
 clear hE hnew
 refine ⟨⟨hF.sub (.cons _ (.cons _ (.cons _ (List.nil_sublist _)))),hF.cell 2 O O⟩,?_⟩
 refine Db O (Gg O) (Db O (Ec Sg O) (Db O (Ec Xc O) ?_))
 refine Rm O 2 (l:=[.slice (A10) ((ls'++[lab]).length) (c10)]) (cs':=#[.slice (A10) ((ls'++[lab]).length) (c10),.slice P2 fs'.length q2]) hF sizeOf25 O (v:=.slice (A10) ((ls'++[lab]).length) (c10)) O O Ed O Kb O ?_
 clear hF; rintro w hF -
 replace hF:FR w0 (Wk2 w0 B pb) ([(b9,.cells #[.int .i64 ((ls.length:Nat))] 3),(b6,.cells #[.string (bs lab)] 9),(pb,.cells #[.slice (A10) ((ls'++[lab]).length) (c10),.slice P2 fs'.length q2] 79)]++(L_10++(N_11++[]))) w:=hF
 refine ⟨⟨hF.sub (.cons _ (.cons _ (.cons _ (List.nil_sublist _)))),hF.cell 2 O O⟩,?_⟩
 refine Xe O (v:=.pointer (some ⟨pb,0,none⟩)) (Hd O) (⟨hF.sub (.cons _ (.cons _ (.cons _ (List.nil_sublist _)))),hF.cell 2 O O⟩) ?_
 refine Xe O (v:=.pointer (some ⟨pb,0,none⟩)) (Lh Sg O) (⟨hF.sub (.cons _ (.cons _ (.cons _ (List.nil_sublist _)))),hF.cell 2 O O⟩) ?_
 refine Db O (Ec Qd O) ?_
 refine Ad O 2 (l:=[.slice (A11) ((fs'++[(ls.length:Int)]).length) (c11)]) (cs':=#[.slice (A10) ((ls'++[lab]).length) (c10),.slice (A11) ((fs'++[(ls.length:Int)]).length) (c11)]) hF sizeOf42 O (v:=.slice (A11) ((fs'++[(ls.length:Int)]).length) (c11)) O O Ed O Kb O ?_
 clear hF; rintro w hF -
 replace hF:FR w0 (Wk2 w0 B pb) ([(b9,.cells #[.int .i64 ((ls.length:Nat))] 3),(b6,.cells #[.string (bs lab)] 9),(pb,.cells #[.slice (A10) ((ls'++[lab]).length) (c10),.slice (A11) ((fs'++[(ls.length:Int)]).length) (c11)] 79)]++(L_10++(N_11++[]))) w:=hF
 refine Mc ?_
 refine Sf (Wd (Ih O) ?_)
 exact ⟨O,Tb.made2 (bs_:=[_,_]) (sl:=L_10) (sf:=N_11) hF hT.lt hT.le hS10_L hS11_N,hF.same⟩
 refine Ge 1 O hF (Za (cs:=#[.int .i64 ((ls.length:Nat))]) underlying42 sizeOf3 zeroValue3 Ua Ua Qb) ?_
 clear hF; rintro b10 w hb10 hF -
 refine ⟨⟨hF.sub (.cons _ (.cons _ (List.nil_sublist _))),hF.cell 1 O O⟩,?_⟩
 refine Mk ?_ ?_
 refine Xe O (v:=.slice P1 ls'.length q1) (Ya isAgg25 O (hF.cell 1 O O)) (⟨hF.sub (.cons _ (.cons _ (List.nil_sublist _))),hF.cell 1 O O⟩) ?_
 refine Ge 1 O hF (Za (cs:=#[.string (bs lab)]) underlying25 sizeOf9 zeroValue9 Ua Ua Qb) ?_
 clear hF; rintro b11 w hb11 hF -
 refine ⟨⟨hF.sub (.cons _ (.cons _ (.cons _ (List.nil_sublist _)))),hF.cell 2 O O⟩,?_⟩
 refine Rc [(b11,.cells #[.string (bs lab)] 9),(b10,.cells #[.int .i64 ((ls.length:Nat))] 3),(pb,.cells #[.slice P1 ls'.length q1,.slice P2 fs'.length q2] 79)] (sf++[]) (news:=[.string (bs lab)]) (len':=(ls'++[lab]).length) (ys:=Wu (ls'++[lab])) O Zm hF hL O O (O) (fun _=>⟨_,O,Xb (hF.cellsAll 0 O)⟩) (by simp [Value.oneCell']) (by simp only [maxLen]; omega) Ma (by simp [Wu]) U ?_
 clear hF; intro A12 c12 L_12 w hS12_L hF hE hnew
 clear hE hnew
 refine ⟨⟨hF.sub (.cons _ (.cons _ (.cons _ (List.nil_sublist _)))),hF.cell 2 O O⟩,?_⟩
 refine Rc ([(b11,.cells #[.string (bs lab)] 9),(b10,.cells #[.int .i64 ((ls.length:Nat))] 3),(pb,.cells #[.slice P1 ls'.length q1,.slice P2 fs'.length q2] 79)]++L_12) [] (news:=[.int .i64 ((ls.length:Nat))]) (len':=(fs'++[(ls.length:Int)]).length) (ys:=Qr (fs'++[(ls.length:Int)])) O Wh hF hN O O (O) (fun _=>⟨_,O,Xb (hF.cellsAll 1 O)⟩) (by simp [Value.oneCell']) (by simp only [maxLen]; omega) Ma (by simp [Qr]) U ?_
 clear hF; intro A13 c13 N_13 w hS13_N hF hE hnew
 clear hE hnew
 refine ⟨⟨hF.sub (.cons _ (.cons _ (.cons _ (List.nil_sublist _)))),hF.cell 2 O O⟩,?_⟩
 refine Db O (Gg O) (Db O (Ec Sg O) (Db O (Ec Xc O) ?_))
 refine Rm O 2 (l:=[.slice (A12) ((ls'++[lab]).length) (c12)]) (cs':=#[.slice (A12) ((ls'++[lab]).length) (c12),.slice P2 fs'.length q2]) hF sizeOf25 O (v:=.slice (A12) ((ls'++[lab]).length) (c12)) O O Ed O Kb O ?_
 clear hF; rintro w hF -
 replace hF:FR w0 (Wk2 w0 B pb) ([(b11,.cells #[.string (bs lab)] 9),(b10,.cells #[.int .i64 ((ls.length:Nat))] 3),(pb,.cells #[.slice (A12) ((ls'++[lab]).length) (c12),.slice P2 fs'.length q2] 79)]++(L_12++(N_13++[]))) w:=hF
 refine ⟨⟨hF.sub (.cons _ (.cons _ (.cons _ (List.nil_sublist _)))),hF.cell 2 O O⟩,?_⟩
 refine Xe O (v:=.pointer (some ⟨pb,0,none⟩)) (Hd O) (⟨hF.sub (.cons _ (.cons _ (.cons _ (List.nil_sublist _)))),hF.cell 2 O O⟩) ?_
 refine Xe O (v:=.pointer (some ⟨pb,0,none⟩)) (Lh Sg O) (⟨hF.sub (.cons _ (.cons _ (.cons _ (List.nil_sublist _)))),hF.cell 2 O O⟩) ?_
 refine Db O (Ec Qd O) ?_
 refine Ad O 2 (l:=[.slice (A13) ((fs'++[(ls.length:Int)]).length) (c13)]) (cs':=#[.slice (A12) ((ls'++[lab]).length) (c12),.slice (A13) ((fs'++[(ls.length:Int)]).length) (c13)]) hF sizeOf42 O (v:=.slice (A13) ((fs'++[(ls.length:Int)]).length) (c13)) O O Ed O Kb O ?_
 clear hF; rintro w hF -
 replace hF:FR w0 (Wk2 w0 B pb) ([(b11,.cells #[.string (bs lab)] 9),(b10,.cells #[.int .i64 ((ls.length:Nat))] 3),(pb,.cells #[.slice (A12) ((ls'++[lab]).length) (c12),.slice (A13) ((fs'++[(ls.length:Int)]).length) (c13)] 79)]++(L_12++(N_13++[]))) w:=hF
 refine Mc ?_
 refine Sf (Wd (Ih O) ?_)
 exact ⟨O,Tb.made2 (bs_:=[_,_]) (sl:=L_12) (sf:=N_13) hF hT.lt hT.le hS12_L hS13_N,hF.same⟩
 refine Ge 1 O hF (Za (cs:=#[.string (bs lab)]) underlying25 sizeOf9 zeroValue9 Ua Ua Qb) ?_
 clear hF; rintro b12 w hb12 hF -
 refine ⟨⟨hF.sub (.cons _ (.cons _ (.cons _ (List.nil_sublist _)))),hF.cell 2 O O⟩,?_⟩
 refine Xe O (v:=.slice P1 ls'.length q1) (Ya isAgg25 O (hF.cell 2 O O)) (⟨hF.sub (.cons _ (.cons _ (.cons _ (List.nil_sublist _)))),hF.cell 2 O O⟩) ?_
 refine Rc [(b12,.cells #[.string (bs lab)] 9),(b10,.cells #[.int .i64 ((ls.length:Nat))] 3),(pb,.cells #[.slice P1 ls'.length q1,.slice P2 fs'.length q2] 79)] (sf++[]) (news:=[.string (bs lab)]) (len':=(ls'++[lab]).length) (ys:=Wu (ls'++[lab])) O Zm hF hL O O (O) (fun _=>⟨_,O,Xb (hF.cellsAll 0 O)⟩) (by simp [Value.oneCell']) (by simp only [maxLen]; omega) Ma (by simp [Wu]) U ?_
 clear hF; intro A14 c14 L_14 w hS14_L hF hE hnew
 clear hE hnew
 refine ⟨⟨hF.sub (.cons _ (.cons _ (.cons _ (List.nil_sublist _)))),hF.cell 2 O O⟩,?_⟩
 refine Rc ([(b12,.cells #[.string (bs lab)] 9),(b10,.cells #[.int .i64 ((ls.length:Nat))] 3),(pb,.cells #[.slice P1 ls'.length q1,.slice P2 fs'.length q2] 79)]++L_14) [] (news:=[.int .i64 ((ls.length:Nat))]) (len':=(fs'++[(ls.length:Int)]).length) (ys:=Qr (fs'++[(ls.length:Int)])) O Wh hF hN O O (O) (fun _=>⟨_,O,Xb (hF.cellsAll 1 O)⟩) (by simp [Value.oneCell']) (by simp only [maxLen]; omega) Ma (by simp [Qr]) U ?_
 clear hF; intro A15 c15 N_15 w hS15_N hF hE hnew
 clear hE hnew
 refine ⟨⟨hF.sub (.cons _ (.cons _ (.cons _ (List.nil_sublist _)))),hF.cell 2 O O⟩,?_⟩
 refine Db O (Gg O) (Db O (Ec Sg O) (Db O (Ec Xc O) ?_))
 refine Rm O 2 (l:=[.slice (A14) ((ls'++[lab]).length) (c14)]) (cs':=#[.slice (A14) ((ls'++[lab]).length) (c14),.slice P2 fs'.length q2]) hF sizeOf25 O (v:=.slice (A14) ((ls'++[lab]).length) (c14)) O O Ed O Kb O ?_
 clear hF; rintro w hF -
 replace hF:FR w0 (Wk2 w0 B pb) ([(b12,.cells #[.string (bs lab)] 9),(b10,.cells #[.int .i64 ((ls.length:Nat))] 3),(pb,.cells #[.slice (A14) ((ls'++[lab]).length) (c14),.slice P2 fs'.length q2] 79)]++(L_14++(N_15++[]))) w:=hF
 refine ⟨⟨hF.sub (.cons _ (.cons _ (.cons _ (List.nil_sublist _)))),hF.cell 2 O O⟩,?_⟩
 refine Xe O (v:=.pointer (some ⟨pb,0,none⟩)) (Hd O) (⟨hF.sub (.cons _ (.cons _ (.cons _ (List.nil_sublist _)))),hF.cell 2 O O⟩) ?_
 refine Xe O (v:=.pointer (some ⟨pb,0,none⟩)) (Lh Sg O) (⟨hF.sub (.cons _ (.cons _ (.cons _ (List.nil_sublist _)))),hF.cell 2 O O⟩) ?_
 refine Db O (Ec Qd O) ?_
 refine Ad O 2 (l:=[.slice (A15) ((fs'++[(ls.length:Int)]).length) (c15)]) (cs':=#[.slice (A14) ((ls'++[lab]).length) (c14),.slice (A15) ((fs'++[(ls.length:Int)]).length) (c15)]) hF sizeOf42 O (v:=.slice (A15) ((fs'++[(ls.length:Int)]).length) (c15)) O O Ed O Kb O ?_
 clear hF; rintro w hF -
 replace hF:FR w0 (Wk2 w0 B pb) ([(b12,.cells #[.string (bs lab)] 9),(b10,.cells #[.int .i64 ((ls.length:Nat))] 3),(pb,.cells #[.slice (A14) ((ls'++[lab]).length) (c14),.slice (A15) ((fs'++[(ls.length:Int)]).length) (c15)] 79)]++(L_14++(N_15++[]))) w:=hF
 refine Mc ?_
 refine Sf (Wd (Ih O) ?_)
 exact ⟨O,Tb.made2 (bs_:=[_,_]) (sl:=L_14) (sf:=N_15) hF hT.lt hT.le hS14_L hS15_N,hF.same⟩
end Go.Scarf
namespace Go.Scarf
open Go.RowKit Go.Proofs Go.Proofs.Tryz
def WJ (x:Tree):Prop:=∀ (w0:World) (B pb:Nat) (ls:List Str) (fs:List Int) (cs:List Value),Tb w0 B pb ls fs→Rep (fun b=>b∉Wk2 w0 B pb) w0 (Vc x) cs→Gl w0→8≤pb→ls.length=fs.length→Fe nodeB x=true→Oc x≤1000000000→Lf x≤1073741824→ls.length+(Qe x).length≤512 →
  Calls prog 43 #[.pointer (some ⟨pb,0,none⟩),.agg cs.toArray] w0 (De fun v w'=>v=.tuple #[]∧Tb w' B pb (ls++Qe x) (fs++Ag x ls.length)∧Same (Wk2 w0 B pb) w0 w')
theorem W3 {w:World} {b:Nat} {l:List Value} {T:TypeId} (h:w.heap[b]? = some (.cells l.toArray T)):∀ j (hj:j < l.length),w.cell? ((⟨b,0,none⟩:Addr).add j)=some l[j]:=fun j hj=>by
  have e:(⟨b,0,none⟩:Addr).add j=⟨b,j,none⟩:=by unfold Addr.add; split <;> simp_all
  rw [e,Ac h j]
  simp [hj]
theorem Zx (xs:List Tree) (b:Nat):(Zj xs b).length=(Wg xs).length:=Ky xs (fun x _ b=>Wf x b) b
theorem Gs (xs:List Tree) (ks:List Str) (b:Nat):(Jj xs ks b).length=(Tf xs ks).length:=Cz xs ks (fun x _ b=>Wf x b) b
theorem Cp:∀ (xs:List Tree) (j:Nat) (h:j < xs.length),Wg (xs.take (j+1))=Wg (xs.take j)++Qe xs[j]
  | x::xs,0,_=>by simp [Wg]
  | x :: xs, j + 1, h => by
    rw [List.take_succ_cons,List.take_succ_cons,Wg,Wg,Cp xs j (by simpa using h),List.append_assoc]
    rfl
theorem Qv:∀ (xs:List Tree) (j:Nat) (h:j < xs.length) (b:Nat),Zj (xs.take (j+1)) b=Zj (xs.take j) b++Ag xs[j] (b+(Wg (xs.take j)).length)
  | x::xs,0,_,b=>by simp [Zj,Wg]
  | x :: xs, j + 1, h, b => by
    rw [List.take_succ_cons,List.take_succ_cons,Zj,Zj,Wg,Qv xs j (by simpa using h),List.append_assoc,List.length_append,Nat.add_assoc]
    rfl
theorem Lq (xs:List Tree) (j:Nat):(Wg (xs.take j)).length≤(Wg xs).length:=by
  induction xs generalizing j with
  | nil=>simp
  | cons x xs ih =>
    cases j with
    | zero=>simp [Wg]
    | succ j =>
      have:=ih j
      rw [List.take_succ_cons,Wg,Wg,List.length_append,List.length_append]; omega
theorem Lp:∀ (xs:List Tree) (ks:List Str) (j:Nat) (h:j < xs.length) (h2:j < ks.length),Tf (xs.take (j+1)) ks=Tf (xs.take j) ks++(Qe xs[j]++[Po ks[j]])
  | x::xs,k::ks,0,_,_=>by simp [Tf]
  | x :: xs, k :: ks, j + 1, h, h2 => by
    rw [List.take_succ_cons,List.take_succ_cons,Tf,Tf,List.tail_cons,Lp xs ks j (by simpa using h) (by simpa using h2)]
    simp
  | _::_,[],_,_,h2=>by simp at h2
theorem Yv:∀ (xs:List Tree) (ks:List Str) (j:Nat) (h:j < xs.length) (h2:j < ks.length) (b:Nat),Jj (xs.take (j+1)) ks b=Jj (xs.take j) ks b++(Ag xs[j] (b+(Tf (xs.take j) ks).length)++[((b+(Tf (xs.take j) ks).length:Nat):Int)])
  | x::xs,k::ks,0,_,_,b=>by simp [Jj,Tf]
  | x :: xs, k :: ks, j + 1, h, h2, b => by
    rw [List.take_succ_cons,List.take_succ_cons,Jj,Jj,Tf,List.tail_cons,Yv xs ks j (by simpa using h) (by simpa using h2)]
    have e:b+(Qe x++Po ((k::ks).headD [])::Tf (xs.take j) ks).length=b+(Qe x).length+1+(Tf (xs.take j) ks).length:=by simp; omega
    rw [e]
    simp
  | _::_,[],_,_,h2,_=>by simp at h2
theorem Oq (xs:List Tree) (ks:List Str) (j:Nat):(Tf (xs.take j) ks).length≤(Tf xs ks).length:=by
  induction xs generalizing j ks with
  | nil=>simp
  | cons x xs ih =>
    cases j with
    | zero=>simp [Tf]
    | succ j =>
      have:=ih ks.tail j
      rw [List.take_succ_cons,Tf,Tf,List.length_append,List.length_append,List.length_cons,List.length_cons]; omega
theorem KA (k:Str):([107]:Str)++Tg (.node 4 k [] [])=Po k:=rfl
theorem Fu (x:Tree) (hm:Lf x≤1073741824):(Tg x).length≤140737488355328:=by
  unfold Tg
  split
  · rename_i h; exact W5 h hm false 0 0 U U
  · simp
theorem SU {S:Nat→Prop} {w:World} {s:Str} (h:s.length≤9223372036854775807):Rep S w (Vc (.node 4 s [] [])) [.int .i64 4,.string (bs s),.slice none 0 0,.slice none 0 0] :=
  Rep.tree_mk ⟨by omega,by omega⟩ h (Rep.nil_slice 0 U none) (Rep.nil_slice 0 U none)
theorem Jr (s:Str):Lf (.node 4 s [] [])=s.length:=by simp [Lf,Yl,Nk]
theorem KS (w0:World) (B pb:Nat) (ls:List Str) (fs:List Int) (hT:Tb w0 B pb ls fs):Calls prog 71 #[] w0 (De fun v w'=>v=.tuple #[]∧Tb w' B pb (ls) (fs)∧Same (Wk2 w0 B pb) w0 w'):=by
 refine Ka func71 O ntmps71 Kb (DN) ?_
 have hB:=TW.start hT
 have hF:=FR.start w0 (Wk2 w0 B pb)
 refine Qa ?_
 refine Sf (Wd (Ih O) ?_)
 exact ⟨O,hB.tb,hF.same⟩
theorem AW (x:Tree) (ih:WJ x) (w0:World) (B pb:Nat) (ls:List Str) (fs:List Int) (hT:Tb w0 B pb ls fs) (hG:Gl w0) (hpN:8≤pb) (hlf:ls.length=fs.length) (k0 k1:Nat) (cs:List Value) (h0:w0.heap[k0]? = some (.cells #[.pointer (some ⟨pb,0,none⟩)] 97)) (h1:w0.heap[k1]? = some (.cells cs.toArray 27)) (hR:Rep (fun b=>b∉Wk2 w0 B pb) w0 (Vc x) cs) (hn:Fe nodeB x=true) (hsz:Oc x≤1000000000) (hm:Lf x≤1073741824) (hlen:ls.length+(Qe x).length≤512):Calls prog 70 #[.pointer (some ⟨k0,0,none⟩),.pointer (some ⟨k1,0,none⟩)] w0 (De fun v w'=>v=.tuple #[]∧Tb w' B pb (ls++Qe x) (fs++Ag x ls.length)∧Same (Wk2 w0 B pb) w0 w'):=by
 have hl:cs.length=4:=hR.length.trans (Dd x)
 have ho:=hR.one_
 refine Ka func70 O ntmps70 Kb (Ee _ _) ?_
 have hB:=TW.start hT
 have hF:=FR.start w0 (Wk2 w0 B pb)
 refine Fa (Ja (v:=.pointer (some ⟨pb,0,none⟩)) (Ya isAgg97 O (Ac h0 0)) (Ja (v:=.agg (List.toArray cs)) (Fc (l:=cs) isAgg27 sizeOf27 O hl (W3 h1)) ?_))
 refine Pb (ih w0 B pb ls fs cs hT hR hG hpN hlf hn hsz hm hlen) (Vb PO O O O) ?_
 rintro _ w ⟨rfl,hT2,hE⟩
 replace hF:=hF.wrote2 hB hE Ma
 replace hB:=hB.wrote hT2 hE
 clear hE
 refine Xa ?_
 refine Sf (Wd (Ih O) ?_)
 exact ⟨O,hB.tb,hF.same⟩
theorem BN (k:Int) (t:Str) (ks:List Str) (xs:List Tree) (A D:Option Addr) (c e:Nat) (w0:World) (B pb:Nat) (ls:List Str) (fs:List Int) (hT:Tb w0 B pb ls fs) (hG:Gl w0) (hpN:8≤pb) (hlf:ls.length=fs.length) (ih:∀ x∈xs,WJ x) (hns:∀ x∈xs,Fe nodeB x=true) (hsz:Fd xs≤1000000000) (hm:Nk xs≤1073741824) (k0 k1:Nat) (h0:w0.heap[k0]? = some (.cells #[.int .i64 k,.string (bs t),.slice A ks.length c,.slice D xs.length e] 27)) (hp:w0.heap[k1]? = some (.cells #[.pointer (some ⟨pb,0,none⟩)] 97)) (hk1:k1≠pb) (hX0:Rep (fun b=>b∉Wk2 w0 B pb) w0 (.slice (Wc xs)) [.slice D xs.length e]) (hlen:ls.length+(Wg xs).length≤512):Calls prog 66 #[.pointer (some ⟨k0,0,none⟩),.pointer (some ⟨k1,0,none⟩)] w0 (De fun v w'=>v=.tuple #[]∧Tb w' B pb (ls++Wg xs) (fs++Zj xs ls.length)∧Same (Wk2 w0 B pb) w0 w'):=by
 have hX:=hX0.toS0
 have hXl:=hX.slice_len
 have hxn:=Jn xs
 refine Ka func66 O ntmps66 Kb (Ee _ _) ?_
 have hB:=TW.start hT
 have hF:=FR.start w0 (Wk2 w0 B pb)
 refine Ia (Ca (Ec Pc O) (Ja (v:=.slice D xs.length e) (Ya isAgg22 O (Ac h0 3)) (Ca (Df underlying22 O) (Ca (Va O) (Ea (Ta ?_))))))
 refine Lc (fun μ σ w=>∃ (j:Nat),μ=xs.length - j∧(j≤xs.length)∧(TW w0 (Wk2 w0 B pb) w B pb (ls++Wg (xs.take j)) (fs++Zj (xs.take j) ls.length))∧(Rep (S0 w0 (Wk2 w0 B pb)) w (.slice (Wc xs)) [.slice D xs.length e])∧(w.heap[k1]? = some (.cells #[.pointer (some ⟨pb,0,none⟩)] 97))∧AllEq σ [(1,.pointer (some ⟨k1,0,none⟩)),(5,.slice D xs.length e),(6,.int .i64 ((xs.length:Nat))),(7,.int .i64 ((j:Int)))]∧FR w0 (Wk2 w0 B pb) [] w) _ ⟨0,O,(Nat.zero_le _),(by simpa [Wg,Zj] using hB),(hX),(hp),Gm,hF⟩ ?_
 clear hF; rintro μ σ w ⟨j,rfl,hj,hB,hX,hp,hs,hF⟩
 refine Cg.slots hs ?_
 clear hs; intro σ
 refine Ia (Ca (Yg O O) (Ea (Ha ?_)))
 refine Yb O O (fun hc0=>?_) (fun hc0=>?_)
 refine Qa (Ga (Ha (Ta (Ia ?_))))
 obtain ⟨ad0,cs0,hA0,hl0,hk0,hx0⟩:=hX.tree_elem (i:=j) U
 have ho0:=hx0.one_
 have hxe:=hx0
 refine Ja (v:=.pointer (some (ad0.add (j * 4)))) (Pa (i:=(j:Int)) Mg O hA0 O U U) (Ja (v:=.agg (List.toArray cs0)) (Fc (l:=cs0) isAgg27 sizeOf27 O hl0 hk0) ?_)
 refine Tx (l:=cs0) hF zeroValue27 (by rw [hl0]; exact sizeOf27) (by rw [hl0]; rfl) (v:=.agg (List.toArray cs0)) O O (ho0) O ?_
 clear hF; intro b1 w hb1 hF hE
 have hnb1:b1≠pb:=by have:=hB.lt; omega
 replace hB:=hB.ext hE
 replace hX:=hX.ext hE
 replace hxe:=hxe.ext hE
 replace hp:=Jm hp hE
 clear hE
 refine Ea (Fa (Ja (v:=.pointer (some ⟨pb,0,none⟩)) (Ya isAgg97 O (Ac hp 0)) (Ja (v:=.agg (List.toArray cs0)) (Fc (l:=cs0) isAgg27 sizeOf27 O hl0 (hF.cellsAll 0 O)) ?_)))
 refine Pb (ih _ (List.getElem_mem (l:=xs) (n:=j) U) _ B pb _ _ cs0 hB.tb (hxe.toOff hB) (hG.wrote2 hF.same (by have:=hT.lt; omega) hpN) hpN (by rw [List.length_append,List.length_append,Zx]; omega) (hns _ (List.getElem_mem _)) (by have:=Rf (List.getElem_mem (l:=xs) (n:=j) U); omega) (by have:=Ch (List.getElem_mem (l:=xs) (n:=j) U); omega) (by have h1:=Lq xs (j+1); rw [Cp xs j U,List.length_append] at h1; rw [List.length_append]; omega)) (Vb PO O O O) ?_
 rintro _ w ⟨rfl,hT2,hE⟩
 replace hX:=hX.offS hB hE
 replace hp:=T4 hp rfl hk1 hE
 replace hF:=hF.wrote2 hB hE (by intro z hz; obtain rfl:=List.mem_singleton.1 hz; exact ⟨.inl rfl,by assumption⟩)
 replace hB:=hB.wrote hT2 hE
 clear hE
 refine Xa (Eb (Ga (Fa (Ca (If (((j+1:Nat):Int)) O O) (Ca (Va O) (Xa ?_))))))
 refine Ib ⟨_,?_,j+1,O,U,(by rw [Cp xs j U,Qv xs j U,←List.append_assoc,←List.append_assoc,←List.length_append]; exact hB),(hX),(hp),Gm,hF.drop 1⟩
 omega
 refine Dc (Cc O ?_)
 refine Sf (Wd (Ih O) ?_)
 obtain rfl:j=xs.length:=by omega
 rw [List.take_length] at hB
 exact ⟨O,hB.tb,hF.same⟩
end Go.Scarf
namespace Go.Scarf
open Go.RowKit Go.Proofs Go.Proofs.Tryz
theorem BT (k:Int) (t:Str) (ks:List Str) (xs:List Tree) (A D:Option Addr) (c e:Nat) (w0:World) (B pb:Nat) (ls:List Str) (fs:List Int) (hT:Tb w0 B pb ls fs) (hG:Gl w0) (hpN:8≤pb) (hlf:ls.length=fs.length) (ih:∀ x∈xs,WJ x) (hns:∀ x∈xs,Fe nodeB x=true) (hsz:Fd xs≤1000000000) (hm:Nk xs≤1073741824) (hkx:ks.length=xs.length) (hkm:∀ s∈ks,s.length≤1073741824) (k0 k1:Nat) (h0:w0.heap[k0]? = some (.cells #[.int .i64 k,.string (bs t),.slice A ks.length c,.slice D xs.length e] 27)) (hp:w0.heap[k1]? = some (.cells #[.pointer (some ⟨pb,0,none⟩)] 97)) (hne0:k0≠pb) (hne1:k1≠pb) (hX0:Rep (fun b=>b∉Wk2 w0 B pb) w0 (.slice (Wc xs)) [.slice D xs.length e]) (hK0:Rep (fun b=>b∉Wk2 w0 B pb) w0 (Hf ks) [.slice A ks.length c]) (hlen:ls.length+(Tf xs ks).length≤512):Calls prog 67 #[.pointer (some ⟨k0,0,none⟩),.pointer (some ⟨k1,0,none⟩)] w0 (De fun v w'=>v=.tuple #[]∧Tb w' B pb (ls++Tf xs ks) (fs++Jj xs ks ls.length)∧Same (Wk2 w0 B pb) w0 w'):=by
 have hX:=hX0.toS0
 have hKs:=hK0.toS0
 have hXl:=hX.slice_len
 have hKl:=hKs.slice_len
 have hxn:=Jn xs
 refine Ka func67 O ntmps67 Kb (Ee _ _) ?_
 have hB:=TW.start hT
 have hF:=FR.start w0 (Wk2 w0 B pb)
 refine Ia (Ca (Ec Pc O) (Ja (v:=.slice D xs.length e) (Ya isAgg22 O (Ac h0 3)) (Ca (Df underlying22 O) (Ca (Va O) (Ea (Ta ?_))))))
 refine Lc (fun μ σ w=>∃ (j:Nat),μ=xs.length - j∧(j≤xs.length)∧(TW w0 (Wk2 w0 B pb) w B pb (ls++Tf (xs.take j) ks) (fs++Jj (xs.take j) ks ls.length))∧(Rep (S0 w0 (Wk2 w0 B pb)) w (.slice (Wc xs)) [.slice D xs.length e])∧(Rep (S0 w0 (Wk2 w0 B pb)) w (Hf ks) [.slice A ks.length c])∧(w.heap[k1]? = some (.cells #[.pointer (some ⟨pb,0,none⟩)] 97))∧(w.heap[k0]? = some (.cells #[.int .i64 k,.string (bs t),.slice A ks.length c,.slice D xs.length e] 27))∧AllEq σ [(0,.pointer (some ⟨k0,0,none⟩)),(1,.pointer (some ⟨k1,0,none⟩)),(5,.slice D xs.length e),(6,.int .i64 ((xs.length:Nat))),(7,.int .i64 ((j:Int)))]∧FR w0 (Wk2 w0 B pb) [] w) _ ⟨0,O,(Nat.zero_le _),(by simpa [Tf,Jj] using hB),(hX),(hKs),(hp),(h0),Am,hF⟩ ?_
 clear hF; rintro μ σ w ⟨j,rfl,hj,hB,hX,hKs,hp,hv,hs,hF⟩
 refine Cg.slots hs ?_
 clear hs; intro σ
 refine Ia (Ca (Yg O O) (Ea (Ha ?_)))
 refine Yb O O (fun hc0=>?_) (fun hc0=>?_)
 refine Qa (Ga (Ha (Ta (Ia (Ca (Va O) ?_)))))
 obtain ⟨ad0,cs0,hA0,hl0,hk0,hx0⟩:=hX.tree_elem (i:=j) U
 have ho0:=hx0.one_
 have hxe:=hx0
 refine Ja (v:=.pointer (some (ad0.add (j * 4)))) (Pa (i:=(j:Int)) Mg O hA0 O U U) (Ja (v:=.agg (List.toArray cs0)) (Fc (l:=cs0) isAgg27 sizeOf27 O hl0 hk0) ?_)
 refine Fg (cs:=#[.int .i64 0,.string (bs []),.slice none 0 0,.slice none 0 0]) hF zeroValue27 O ?_
 clear hF; intro b1 w hb1 hF hE
 have hnb1:b1≠pb:=by have:=hB.lt; omega
 have hgb1:w0.heap.size≤b1:=by have:=hB.ge; omega
 have hkb1:k0≠b1∧k1≠b1:=⟨by have:=Ra hv; omega,by have:=Ra hp; omega⟩
 have hrb1:Jp w b1=false:=(To (hF.heap (i:=0) rfl)).trans rfl
 replace hB:=hB.ext hE
 replace hX:=hX.ext hE
 replace hKs:=hKs.ext hE
 replace hxe:=hxe.ext hE
 replace hp:=Jm hp hE
 replace hv:=Jm hv hE
 clear hE
 refine Ca (Wb O) ?_
 refine Me 0 (l:=cs0) (cs':=(List.toArray cs0)) hF (by rw [hl0]; exact sizeOf27) O (v:=.agg (List.toArray cs0)) O O (ho0) O (by rw [hl0]; exact Nat.le_of_ble_eq_true O) (Wq (by rw [hl0]; rfl)) ?_
 clear hF; intro w hF hE
 replace hB:=hB.step hE (by simpa using fun e=>hnb1 e.symm) (by intro z hz; obtain rfl:=List.mem_singleton.1 hz; exact hrb1) (by intro z hz; obtain rfl:=List.mem_singleton.1 hz; exact (To (hF.heap (i:=0) rfl)).trans rfl)
 replace hX:=hX.same hE (fun z hz hs=>by obtain rfl:=List.mem_singleton.1 hz; have:=hs.1; omega)
 replace hKs:=hKs.same hE (fun z hz hs=>by obtain rfl:=List.mem_singleton.1 hz; have:=hs.1; omega)
 replace hxe:=hxe.same hE (fun z hz hs=>by obtain rfl:=List.mem_singleton.1 hz; have:=hs.1; omega)
 replace hp:=(hE.block k1 (Ra hp) (by simpa using hkb1.2)).trans hp
 replace hv:=(hE.block k0 (Ra hv) (by simpa using hkb1.1)).trans hv
 clear hE
 replace hF:FR w0 (Wk2 w0 B pb) [(b1,.cells (List.toArray cs0) 27)] w:=hF
 refine Ea ?_
 obtain ⟨adk,hAk,-⟩:=hKs.str_elem (i:=j) U
 have hkl:=hkm ks[j] (List.getElem_mem _)
 refine Uc [] (.free 0 (.free 1 (.free 2 (.free 3 (.free 4 (.free 5 (.free 9 (.act 6 (.act 7 (.free 8 (.act 10 .nil))))))))))) hF ?_
 clear hF; intro w hF hE
 replace hB:=hB.ext hE
 replace hX:=hX.ext hE
 replace hKs:=hKs.ext hE
 replace hxe:=hxe.ext hE
 replace hp:=Jm hp hE
 replace hv:=Jm hv hE
 clear hE
 refine ⟨fun wq=>FR w0 (Wk2 w0 B pb) _ wq∧wq.heap[k1]? = some (.cells #[.pointer (some ⟨pb,0,none⟩)] 97)∧wq.heap[k0]? = some (.cells #[.int .i64 k,.string (bs t),.slice A ks.length c,.slice D xs.length e] 27)∧Rep (S0 w0 (Wk2 w0 B pb)) wq (Hf ks) [.slice A ks.length c],⟨hF,⟨hp,hv,hKs⟩⟩,?_⟩
 refine Oa O (v:=.pointer (some ⟨pb,0,none⟩)) (fun w hC=>Ya isAgg97 O (Ac hC.2.1 0)) (Db O (Ec Af O) (Oa O (v:=.slice A ks.length c) (fun w hC=>Ya isAgg25 O (Ac hC.2.2.1 2)) (Db O (Va O) (Oa O (v:=.pointer (some (adk.add (j * 1)))) (fun w hC=>Pa (i:=((j:Nat):Int)) Gk O hAk O U U) (Oa O (v:=.string (bs (ks[j]))) (fun w hC=>Ya isAgg9 O (QE hC.2.2.2 hAk U)) (Oa O (v:=.func (.func 70) #[] #[.pointer (some ⟨k1,0,none⟩),.pointer (some ⟨b1,0,none⟩)]) (fun w hC=>Qo O O) ?_))))))
 refine Ye O (of_c ks[j] _) (Cb en_69 O O) ?_
 rintro _ w ⟨rfl,hE⟩
 replace hF:=hF.ext hE
 replace hB:=hB.ext hE
 replace hX:=hX.ext hE
 replace hKs:=hKs.ext hE
 replace hxe:=hxe.ext hE
 replace hp:=Jm hp hE
 replace hv:=Jm hv hE
 clear hE
 refine ⟨⟨hF,⟨hp,hv,hKs⟩⟩,?_⟩
 refine Ye O (DH (.node 4 ks[j] [] []) (fun _=>True) _ [.int .i64 4,.string (bs ks[j]),.slice none 0 0,.slice none 0 0] (SU U) (hG.wrote2 hF.same (by have:=hT.lt; omega) hpN) (by simp [Oc,Fd]) (by rw [Jr]; omega)) (Cb WT O O) ?_
 rintro _ w ⟨rfl,hE⟩
 replace hF:=hF.ext hE
 replace hB:=hB.ext hE
 replace hX:=hX.ext hE
 replace hKs:=hKs.ext hE
 replace hxe:=hxe.ext hE
 replace hp:=Jm hp hE
 replace hv:=Jm hv hE
 clear hE
 refine ⟨⟨hF,⟨hp,hv,hKs⟩⟩,?_⟩
 refine Oa O (v:=.string (bs (Po ks[j]))) (fun w hC=>by rw [←KA _]; exact Gh O O (by have:=Fu (.node 4 ks[j] [] []) (by rw [Jr]; omega); simp only [List.length_cons,List.length_nil]; omega)) ?_
 have hlb1:=Oq xs ks (j+1)
 rw [Lp xs ks j U U,List.length_append,List.length_append,List.length_singleton] at hlb1
 have hlb2:(ls++Tf (xs.take j) ks).length=ls.length+(Tf (xs.take j) ks).length:=List.length_append
 refine Ye O (GI w B pb 70 #[.pointer (some ⟨k1,0,none⟩),.pointer (some ⟨b1,0,none⟩)] IZ (ls++Tf (xs.take j) ks) _ (fs++Jj (xs.take j) ks ls.length) _ (Po ks[j]) hB.tb (AW xs[j] (ih _ (List.getElem_mem _)) w B pb (ls++Tf (xs.take j) ks) (fs++Jj (xs.take j) ks ls.length) hB.tb (hG.wrote2 hF.same (by have:=hT.lt; omega) hpN) hpN (by rw [List.length_append,List.length_append,Gs]; omega) k1 b1 _ hp (hF.heap (i:=0) O) (hxe.toOff hB) (hns _ (List.getElem_mem _)) (by have:=Rf (List.getElem_mem (l:=xs) (n:=j) U); omega) (by have:=Ch (List.getElem_mem (l:=xs) (n:=j) U); omega) U) (by rw [List.length_append]; omega) (by rw [List.length_append,Wf,List.length_append,Gs]; omega)) (Gd JI O O O O) ?_
 rintro _ w ⟨rfl,hT2,hE⟩
 replace hX:=hX.offS hB hE
 replace hKs:=hKs.offS hB hE
 replace hp:=T4 hp rfl hne1 hE
 replace hv:=T4 hv rfl hne0 hE
 replace hF:=hF.wrote2 hB hE (by intro z hz; obtain rfl:=List.mem_singleton.1 hz; exact ⟨.inl rfl,by assumption⟩)
 replace hB:=hB.wrote hT2 hE
 clear hE
 refine ⟨⟨hF,⟨hp,hv,hKs⟩⟩,?_⟩
 refine Mc (Eb (Ga (Fa (Ca (If (((j+1:Nat):Int)) O O) (Ca (Va O) (Xa ?_))))))
 refine Ib ⟨_,?_,j+1,O,U,(by rw [Lp xs ks j U U,Yv xs ks j U U]; simp only [←List.append_assoc]; rw [show ls.length+(Tf (xs.take j) ks).length=(ls++Tf (xs.take j) ks).length from List.length_append.symm]; exact hB),(hX),(hKs),(hp),(hv),Am,hF.drop 1⟩
 omega
 refine Dc (Cc O ?_)
 refine Sf (Wd (Ih O) ?_)
 obtain rfl:j=xs.length:=by omega
 rw [List.take_length] at hB
 exact ⟨O,hB.tb,hF.same⟩
end Go.Scarf
