/- A part of the proof. -/
import Derived.Test.YtepbomjpbdbejaaGreatDoorTb
import Derived.Test.YtepbomjpbdbejaaGreatDoorP3
import Derived.Test.YtepbomjpbdbejaaGreatDoorZ1
import Derived.Test.YtepbomjpbdbejaaGreatDoorW16
import Derived.Test.YtepbomjpbdbejaaGreatDoorBd
set_option linter.all false
set_option maxHeartbeats 8000000
set_option maxRecDepth 10000
namespace Go.Scarf
open Go.RowKit Go.Proofs Go.Proofs.Tryz
section
variable {w w' w0 : World} {Ds E : List Nat} {bs_ : List (Nat × Obj)} {B pb : Nat} {ls ls' : List Str} {fs fs' : List Int}
theorem Tb.made2 {A A' : Option Addr} {c c' : Nat} {sl sf : List (Nat × Obj)} (hF : FR w0 (Wk2 w0 B pb) ((bs_ ++ [(pb, .cells #[.slice A ls.length c, .slice A' fs.length c'] 84)]) ++ (sl ++ (sf ++ []))) w) (hp : pb < B) (hB : B ≤ w0.heap.size)
    (hL : SlB 9 1 A ls.length c (Xy ls) sl) (hN : SlB 3 1 A' fs.length c' (Fr fs) sf) : Tb w B pb ls fs := by
  refine Tb.made hF hp (Nat.le_trans hB hF.same.size) hL hN fun q hq => ?_
  have hm : q ∈ (bs_ ++ [(pb, Obj.cells #[.slice A ls.length c, .slice A' fs.length c'] 84)]) ++ (sl ++ (sf ++ [])) := by
    rcases List.mem_append.1 hq with h | h <;> simp [h]
  have hne : q.1 ≠ pb := by
    have := (List.pairwise_append.1 hF.desc).2.2 (pb, Obj.cells #[.slice A ls.length c, .slice A' fs.length c'] 84) Ga q (by rcases List.mem_append.1 hq with h | h <;> simp [h])
    exact this
  rcases (hF.own q hm).2 with h | h
  · omega
  · rcases Kh.1 h with h1 | ⟨-, h1, -⟩
    · exact absurd h1 hne
    · exact h1
def S0 (w0 : World) (Ds : List Nat) (b : Nat) : Prop := b < w0.heap.size ∧ b ∉ Ds
theorem Rep.offS {d : D} {cs : List Value} (h : Rep (S0 w0 Ds) w d cs) (hB : TW w0 Ds w B pb ls fs) (hs : Same (Wk2 w B pb) w w') : Rep (S0 w0 Ds) w' d cs := h.same hs fun b hb hn => hn.2 (hB.sub b hb hn.1)
theorem Rep.toOff {d : D} {cs : List Value} (h : Rep (S0 w0 Ds) w d cs) (hB : TW w0 Ds w B pb ls fs) : Rep (fun b => b ∉ Wk2 w B pb) w d cs := h.weaken fun b hb _ hm => hb.2 (hB.sub b hm hb.1)
theorem Rep.toS0 {d : D} {cs : List Value} (h : Rep (fun b => b ∉ Wk2 w0 B pb) w0 d cs) : Rep (S0 w0 (Wk2 w0 B pb)) w0 d cs := h.old.weaken fun b hb _ => ⟨hb.2, hb.1⟩
theorem Dx {b : Nat} {o : Obj} (h : w.heap[b]? = some o) (hr : Yy o = false) (hb : b ≠ pb) (hs : Same (Wk2 w B pb) w w') : w'.heap[b]? = some o := by
  refine (hs.block b (Da h) fun hm => ?_).trans h
  rcases Kh.1 hm with h1 | ⟨-, -, h1⟩
  · exact hb h1
  · rw [Il h, hr] at h1; cases h1
theorem Xi {b : Nat} {o : Obj} (h : w.heap[b]? = some o) (hs : Same [] w w') : w'.heap[b]? = some o := (hs.block b (Da h) Ga).trans h
theorem Gl.wrote2 (h : Gl w0) (hs : Same (Wk2 w0 B pb) w0 w) (hb : 7 ≤ B) (hp : 7 ≤ pb) : Gl w := h.same hs fun x hx => by
  rcases Kh.1 hx with rfl | ⟨-, h1, -⟩ <;> omega
end
theorem E9 (x : Tree) (S : Nat → Prop) (w0 : World) (cs : List Value) (hR : Rep S w0 (Ed x) cs) (hG : Gl w0) (hsz : Qc x ≤ 1000000000) (hm : Rf x ≤ 1073741824) : Calls prog 78 #[.agg cs.toArray] w0 (Md fun v w' => v = .string (bs (Pq x)) ∧ Same [] w0 w') := by
 have hl : cs.length = 4 := hR.length.trans (Yd x)
 have ho := hR.one_
 refine Ka func78 rfl ntmps78 Gb (Dd _) ?_
 have hF := FR.start w0 []
 refine Ma ?_
 refine Qq (v := .agg (List.toArray cs)) (cs := (List.toArray cs)) hF rfl rfl ?_
 clear hF; rintro b1 w hb1 hF -
 refine Ca (Zi rfl) (Cc (Ia (v := .agg (List.toArray cs)) (Ic (l := cs) isAgg27 sizeOf27 rfl hl (hF.cellsAll 0 rfl)) ?_))
 refine Rb hF (KK x _ _ cs (hF.rep hR) (hG.ext hF.same) hsz hm) (Ob GM rfl rfl) ?_
 clear hF; intro w hF
 refine Ca (Gn rfl) (Ca (CA rfl rfl) (Ca (Mt rfl rfl) (Ca (Zi rfl) (Ca (Pc rfl) (Cc (Ca (Bf rfl) (Ca (Zi rfl) (Fa ?_))))))))
 refine Ie (v := .string (bs (Pq x))) rfl rfl ?_
 exact ⟨rfl, hF.same⟩
theorem M9 (w0 : World) (B pb K : Nat) (caps : Array Value) (hen : Jb prog K) (ls ls' : List Str) (fs fs' : List Int) (lab : Str) (hT : Tb w0 B pb ls fs) (hkids : Calls prog K caps w0 (Md fun v w' => v = .tuple #[] ∧ Tb w' B pb (ls') (fs') ∧ Same (Wk2 w0 B pb) w0 w')) (hl1 : ls'.length ≤ 512) (hl2 : fs'.length ≤ 512) : Calls prog 75 #[.pointer (some ⟨pb, 0, none⟩), .string (bs lab), .func (.func K) #[] caps] w0 (Md fun v w' => v = .tuple #[] ∧ Tb w' B pb (ls' ++ [lab]) (fs' ++ [(ls.length : Int)]) ∧ Same (Wk2 w0 B pb) w0 w') := by
 refine Ka func75 rfl ntmps75 Gb (Pi _ _ _) ?_
 have hB := TW.start hT
 have hF := FR.start w0 (Wk2 w0 B pb)
 obtain ⟨P0, q0, P9, q9, hpb⟩ := hT.len
 refine Ma (Ca (Qd rfl) (Ca (Cf rfl) (Ca (Gc Ge rfl) (Ca (Gc De rfl) (Ia (v := .slice P0 ls.length q0) (Wa isAgg25 rfl (Ib hpb 0)) (Ca (Lf underlying25 rfl) (Ca (Pc rfl) (Cc (Ca (F6) ?_)))))))))
 refine Eb hkids (AE rfl hen Ga) ?_
 rintro _ w ⟨rfl, hT2, hE⟩
 replace hF := hF.wrote2 hB hE Ga
 replace hB := hB.wrote hT2 hE
 clear hE
 obtain ⟨P1, q1, sl, P2, q2, sf, hL, hN, hF2, -⟩ := hB.open_ hF Ga
 clear hF
 have hF : FR w0 (Wk2 w0 B pb) ([(pb, .cells #[.slice P1 ls'.length q1, .slice P2 fs'.length q2] 84)] ++ (sl ++ (sf ++ []))) w := hF2
 clear hF2
 refine Cc (Ca (Qd rfl) (Ca (Cf rfl) (Ca (Gc Ge rfl) (Ca (Gc De rfl) (Vd (Ij isAgg25 rfl hF.F 0 rfl rfl) (Ca (Lf underlying25 rfl) (Ia (v := .bool true) (Kf (QH rfl rfl) by_Om) (Fa (Rd rfl ?_)))))))))
 refine Yc [25] (.free 0 (.free 1 (.free 2 (.free 3 (.free 4 (.free 5 (.free 7 (.free 10 (.free 11 (.free 12 (.free 13 (.free 14 (.free 15 (.alt 6 (.alt 8 (.alt 9 (.act 16 (.act 17 (.free 18 (.free 19 (.free 20 (.act 21 (.act 22 (.act 23 (.free 24 (.act 25 .nil)))))))))) (.act 16 (.act 9 (.act 17 (.free 18 (.free 19 (.free 20 (.act 21 (.act 22 (.act 23 (.free 24 (.act 25 .nil)))))))))))) (.act 16 (.act 8 (.act 9 (.act 17 (.free 18 (.free 19 (.free 20 (.act 21 (.act 22 (.act 23 (.free 24 (.act 25 .nil))))))))))))) (.alt 8 (.alt 6 (.alt 9 (.act 16 (.act 17 (.free 18 (.free 19 (.free 20 (.act 21 (.act 22 (.act 23 (.free 24 (.act 25 .nil)))))))))) (.act 16 (.act 9 (.act 17 (.free 18 (.free 19 (.free 20 (.act 21 (.act 22 (.act 23 (.free 24 (.act 25 .nil)))))))))))) (.act 16 (.act 6 (.act 9 (.act 17 (.free 18 (.free 19 (.free 20 (.act 21 (.act 22 (.act 23 (.free 24 (.act 25 .nil))))))))))))) (.act 16 (.alt 6 (.act 8 (.act 9 (.act 17 (.free 18 (.free 19 (.free 20 (.act 21 (.act 22 (.act 23 (.free 24 (.act 25 .nil))))))))))) (.act 8 (.act 6 (.act 9 (.act 17 (.free 18 (.free 19 (.free 20 (.act 21 (.act 22 (.act 23 (.free 24 (.act 25 .nil))))))))))))))))))))))))))))) hF ?_
 clear hF; rintro w hF -
 refine ⟨fun wq => FR w0 (Wk2 w0 B pb) [] wq ∧ wq.cell? ⟨pb, 1, none⟩ = some (.slice P2 fs'.length q2), ⟨hF.sub (.cons _ (List.nil_sublist _)), hF.cell 0 rfl rfl⟩, ?_⟩
 refine Xa rfl (Qd rfl) (Xa rfl (Qd rfl) (Xa rfl (Qd rfl) (Xa rfl (Cf rfl) (Xa rfl (Gc Ge rfl) (Xa rfl (Gc De rfl) (Xa rfl (Bf rfl) (Xa rfl (Qd rfl) (Xa rfl (Cf rfl) (Xa rfl (Gc Ge rfl) (Xa rfl (Gc Of rfl) (Qa rfl (v := .slice P2 fs'.length q2) (fun w hC => Wa isAgg39 rfl hC.2) (Xa rfl (Hb rfl) ?_))))))))))))
 refine Ji ?_ ?_
 refine Cd rfl (v := .slice P1 ls'.length q1) (Wa isAgg25 rfl (hF.cell 0 rfl rfl)) (⟨hF.sub (.cons _ (List.nil_sublist _)), hF.cell 0 rfl rfl⟩) ?_
 refine Ji ?_ ?_
 refine Id 1 rfl hF (Ua (cs := #[.string (bs lab)]) underlying25 sizeOf9 zeroValue9 Ta Ta Db) ?_
 clear hF; rintro b1 w hb1 hF -
 refine ⟨⟨hF.sub (.cons _ (.cons _ (List.nil_sublist _))), hF.cell 1 rfl rfl⟩, ?_⟩
 refine Ji ?_ ?_
 refine Fc [(b1, .cells #[.string (bs lab)] 9), (pb, .cells #[.slice P1 ls'.length q1, .slice P2 fs'.length q2] 84)] (sf ++ []) (news := [.string (bs lab)]) (len' := (ls' ++ [lab]).length) (ys := Xy (ls' ++ [lab])) rfl Ju hF hL rfl rfl (rfl) (fun _ => ⟨_, rfl, Ub (hF.cellsAll 0 rfl)⟩) (by simp [Value.oneCell']) (by simp only [maxLen]; omega) Ga (by simp [Xy]) by_Om ?_
 clear hF; intro A0 c0 L_0 w hS0_L hF hE hnew
 clear hE hnew
 refine ⟨⟨hF.sub (.cons _ (.cons _ (List.nil_sublist _))), hF.cell 1 rfl rfl⟩, ?_⟩
 refine Id 1 rfl hF (Ua (cs := #[.int .i64 ((ls.length : Nat))]) underlying39 sizeOf3 zeroValue3 Ta Ta Db) ?_
 clear hF; rintro b2 w hb2 hF -
 refine ⟨⟨hF.sub (.cons _ (.cons _ (.cons _ (List.nil_sublist _)))), hF.cell 2 rfl rfl⟩, ?_⟩
 refine Fc ([(b2, .cells #[.int .i64 ((ls.length : Nat))] 3), (b1, .cells #[.string (bs lab)] 9), (pb, .cells #[.slice P1 ls'.length q1, .slice P2 fs'.length q2] 84)] ++ L_0) [] (news := [.int .i64 ((ls.length : Nat))]) (len' := (fs' ++ [(ls.length : Int)]).length) (ys := Fr (fs' ++ [(ls.length : Int)])) rfl Xg hF hN rfl rfl (rfl) (fun _ => ⟨_, rfl, Ub (hF.cellsAll 0 rfl)⟩) (by simp [Value.oneCell']) (by simp only [maxLen]; omega) Ga (by simp [Fr]) by_Om ?_
 clear hF; intro A1 c1 N_1 w hS1_N hF hE hnew
 clear hE hnew
 refine ⟨⟨hF.sub (.cons _ (.cons _ (.cons _ (List.nil_sublist _)))), hF.cell 2 rfl rfl⟩, ?_⟩
 refine Xa rfl (Cf rfl) (Xa rfl (Gc Ge rfl) (Xa rfl (Gc De rfl) ?_))
 refine Vj rfl 2 (l := [.slice (A0) ((ls' ++ [lab]).length) (c0)]) (cs' := #[.slice (A0) ((ls' ++ [lab]).length) (c0), .slice P2 fs'.length q2]) hF sizeOf25 rfl (v := .slice (A0) ((ls' ++ [lab]).length) (c0)) rfl rfl Zc rfl Gb rfl ?_
 clear hF; rintro w hF -
 replace hF : FR w0 (Wk2 w0 B pb) ([(b2, .cells #[.int .i64 ((ls.length : Nat))] 3), (b1, .cells #[.string (bs lab)] 9), (pb, .cells #[.slice (A0) ((ls' ++ [lab]).length) (c0), .slice P2 fs'.length q2] 84)] ++ (L_0 ++ (N_1 ++ []))) w := hF
 refine ⟨⟨hF.sub (.cons _ (.cons _ (.cons _ (List.nil_sublist _)))), hF.cell 2 rfl rfl⟩, ?_⟩
 refine Cd rfl (v := .pointer (some ⟨pb, 0, none⟩)) (Ec rfl) (⟨hF.sub (.cons _ (.cons _ (.cons _ (List.nil_sublist _)))), hF.cell 2 rfl rfl⟩) ?_
 refine Cd rfl (v := .pointer (some ⟨pb, 0, none⟩)) (Ye Ge rfl) (⟨hF.sub (.cons _ (.cons _ (.cons _ (List.nil_sublist _)))), hF.cell 2 rfl rfl⟩) ?_
 refine Xa rfl (Gc Of rfl) ?_
 refine Sc rfl 2 (l := [.slice (A1) ((fs' ++ [(ls.length : Int)]).length) (c1)]) (cs' := #[.slice (A0) ((ls' ++ [lab]).length) (c0), .slice (A1) ((fs' ++ [(ls.length : Int)]).length) (c1)]) hF sizeOf39 rfl (v := .slice (A1) ((fs' ++ [(ls.length : Int)]).length) (c1)) rfl rfl Zc rfl Gb rfl ?_
 clear hF; rintro w hF -
 replace hF : FR w0 (Wk2 w0 B pb) ([(b2, .cells #[.int .i64 ((ls.length : Nat))] 3), (b1, .cells #[.string (bs lab)] 9), (pb, .cells #[.slice (A0) ((ls' ++ [lab]).length) (c0), .slice (A1) ((fs' ++ [(ls.length : Int)]).length) (c1)] 84)] ++ (L_0 ++ (N_1 ++ []))) w := hF
 refine Ac ?_
 refine Td (Nc (Ve rfl) ?_)
 exact ⟨rfl, Tb.made2 (bs_ := [_, _]) (sl := L_0) (sf := N_1) hF hT.lt hT.le hS0_L hS1_N, hF.same⟩
 refine Id 1 rfl hF (Ua (cs := #[.int .i64 ((ls.length : Nat))]) underlying39 sizeOf3 zeroValue3 Ta Ta Db) ?_
 clear hF; rintro b3 w hb3 hF -
 refine ⟨⟨hF.sub (.cons _ (.cons _ (.cons _ (List.nil_sublist _)))), hF.cell 2 rfl rfl⟩, ?_⟩
 refine Fc [(b3, .cells #[.int .i64 ((ls.length : Nat))] 3), (b1, .cells #[.string (bs lab)] 9), (pb, .cells #[.slice P1 ls'.length q1, .slice P2 fs'.length q2] 84)] (sf ++ []) (news := [.string (bs lab)]) (len' := (ls' ++ [lab]).length) (ys := Xy (ls' ++ [lab])) rfl Ju hF hL rfl rfl (rfl) (fun _ => ⟨_, rfl, Ub (hF.cellsAll 1 rfl)⟩) (by simp [Value.oneCell']) (by simp only [maxLen]; omega) Ga (by simp [Xy]) by_Om ?_
 clear hF; intro A2 c2 L_2 w hS2_L hF hE hnew
 clear hE hnew
 refine ⟨⟨hF.sub (.cons _ (.cons _ (.cons _ (List.nil_sublist _)))), hF.cell 2 rfl rfl⟩, ?_⟩
 refine Fc ([(b3, .cells #[.int .i64 ((ls.length : Nat))] 3), (b1, .cells #[.string (bs lab)] 9), (pb, .cells #[.slice P1 ls'.length q1, .slice P2 fs'.length q2] 84)] ++ L_2) [] (news := [.int .i64 ((ls.length : Nat))]) (len' := (fs' ++ [(ls.length : Int)]).length) (ys := Fr (fs' ++ [(ls.length : Int)])) rfl Xg hF hN rfl rfl (rfl) (fun _ => ⟨_, rfl, Ub (hF.cellsAll 0 rfl)⟩) (by simp [Value.oneCell']) (by simp only [maxLen]; omega) Ga (by simp [Fr]) by_Om ?_
 clear hF; intro A3 c3 N_3 w hS3_N hF hE hnew
 clear hE hnew
 refine ⟨⟨hF.sub (.cons _ (.cons _ (.cons _ (List.nil_sublist _)))), hF.cell 2 rfl rfl⟩, ?_⟩
 refine Xa rfl (Cf rfl) (Xa rfl (Gc Ge rfl) (Xa rfl (Gc De rfl) ?_))
 refine Vj rfl 2 (l := [.slice (A2) ((ls' ++ [lab]).length) (c2)]) (cs' := #[.slice (A2) ((ls' ++ [lab]).length) (c2), .slice P2 fs'.length q2]) hF sizeOf25 rfl (v := .slice (A2) ((ls' ++ [lab]).length) (c2)) rfl rfl Zc rfl Gb rfl ?_
 clear hF; rintro w hF -
 replace hF : FR w0 (Wk2 w0 B pb) ([(b3, .cells #[.int .i64 ((ls.length : Nat))] 3), (b1, .cells #[.string (bs lab)] 9), (pb, .cells #[.slice (A2) ((ls' ++ [lab]).length) (c2), .slice P2 fs'.length q2] 84)] ++ (L_2 ++ (N_3 ++ []))) w := hF
 refine ⟨⟨hF.sub (.cons _ (.cons _ (.cons _ (List.nil_sublist _)))), hF.cell 2 rfl rfl⟩, ?_⟩
 refine Cd rfl (v := .pointer (some ⟨pb, 0, none⟩)) (Ec rfl) (⟨hF.sub (.cons _ (.cons _ (.cons _ (List.nil_sublist _)))), hF.cell 2 rfl rfl⟩) ?_
 refine Cd rfl (v := .pointer (some ⟨pb, 0, none⟩)) (Ye Ge rfl) (⟨hF.sub (.cons _ (.cons _ (.cons _ (List.nil_sublist _)))), hF.cell 2 rfl rfl⟩) ?_
 refine Xa rfl (Gc Of rfl) ?_
 refine Sc rfl 2 (l := [.slice (A3) ((fs' ++ [(ls.length : Int)]).length) (c3)]) (cs' := #[.slice (A2) ((ls' ++ [lab]).length) (c2), .slice (A3) ((fs' ++ [(ls.length : Int)]).length) (c3)]) hF sizeOf39 rfl (v := .slice (A3) ((fs' ++ [(ls.length : Int)]).length) (c3)) rfl rfl Zc rfl Gb rfl ?_
 clear hF; rintro w hF -
 replace hF : FR w0 (Wk2 w0 B pb) ([(b3, .cells #[.int .i64 ((ls.length : Nat))] 3), (b1, .cells #[.string (bs lab)] 9), (pb, .cells #[.slice (A2) ((ls' ++ [lab]).length) (c2), .slice (A3) ((fs' ++ [(ls.length : Int)]).length) (c3)] 84)] ++ (L_2 ++ (N_3 ++ []))) w := hF
 refine Ac ?_
 refine Td (Nc (Ve rfl) ?_)
 exact ⟨rfl, Tb.made2 (bs_ := [_, _]) (sl := L_2) (sf := N_3) hF hT.lt hT.le hS2_L hS3_N, hF.same⟩
 refine Id 1 rfl hF (Ua (cs := #[.int .i64 ((ls.length : Nat))]) underlying39 sizeOf3 zeroValue3 Ta Ta Db) ?_
 clear hF; rintro b4 w hb4 hF -
 refine ⟨⟨hF.sub (.cons _ (.cons _ (List.nil_sublist _))), hF.cell 1 rfl rfl⟩, ?_⟩
 refine Id 1 rfl hF (Ua (cs := #[.string (bs lab)]) underlying25 sizeOf9 zeroValue9 Ta Ta Db) ?_
 clear hF; rintro b5 w hb5 hF -
 refine ⟨⟨hF.sub (.cons _ (.cons _ (.cons _ (List.nil_sublist _)))), hF.cell 2 rfl rfl⟩, ?_⟩
 refine Fc [(b5, .cells #[.string (bs lab)] 9), (b4, .cells #[.int .i64 ((ls.length : Nat))] 3), (pb, .cells #[.slice P1 ls'.length q1, .slice P2 fs'.length q2] 84)] (sf ++ []) (news := [.string (bs lab)]) (len' := (ls' ++ [lab]).length) (ys := Xy (ls' ++ [lab])) rfl Ju hF hL rfl rfl (rfl) (fun _ => ⟨_, rfl, Ub (hF.cellsAll 0 rfl)⟩) (by simp [Value.oneCell']) (by simp only [maxLen]; omega) Ga (by simp [Xy]) by_Om ?_
 clear hF; intro A4 c4 L_4 w hS4_L hF hE hnew
 clear hE hnew
 refine ⟨⟨hF.sub (.cons _ (.cons _ (.cons _ (List.nil_sublist _)))), hF.cell 2 rfl rfl⟩, ?_⟩
 refine Fc ([(b5, .cells #[.string (bs lab)] 9), (b4, .cells #[.int .i64 ((ls.length : Nat))] 3), (pb, .cells #[.slice P1 ls'.length q1, .slice P2 fs'.length q2] 84)] ++ L_4) [] (news := [.int .i64 ((ls.length : Nat))]) (len' := (fs' ++ [(ls.length : Int)]).length) (ys := Fr (fs' ++ [(ls.length : Int)])) rfl Xg hF hN rfl rfl (rfl) (fun _ => ⟨_, rfl, Ub (hF.cellsAll 1 rfl)⟩) (by simp [Value.oneCell']) (by simp only [maxLen]; omega) Ga (by simp [Fr]) by_Om ?_
 clear hF; intro A5 c5 N_5 w hS5_N hF hE hnew
 clear hE hnew
 refine ⟨⟨hF.sub (.cons _ (.cons _ (.cons _ (List.nil_sublist _)))), hF.cell 2 rfl rfl⟩, ?_⟩
 refine Xa rfl (Cf rfl) (Xa rfl (Gc Ge rfl) (Xa rfl (Gc De rfl) ?_))
 refine Vj rfl 2 (l := [.slice (A4) ((ls' ++ [lab]).length) (c4)]) (cs' := #[.slice (A4) ((ls' ++ [lab]).length) (c4), .slice P2 fs'.length q2]) hF sizeOf25 rfl (v := .slice (A4) ((ls' ++ [lab]).length) (c4)) rfl rfl Zc rfl Gb rfl ?_
 clear hF; rintro w hF -
 replace hF : FR w0 (Wk2 w0 B pb) ([(b5, .cells #[.string (bs lab)] 9), (b4, .cells #[.int .i64 ((ls.length : Nat))] 3), (pb, .cells #[.slice (A4) ((ls' ++ [lab]).length) (c4), .slice P2 fs'.length q2] 84)] ++ (L_4 ++ (N_5 ++ []))) w := hF
 refine ⟨⟨hF.sub (.cons _ (.cons _ (.cons _ (List.nil_sublist _)))), hF.cell 2 rfl rfl⟩, ?_⟩
 refine Cd rfl (v := .pointer (some ⟨pb, 0, none⟩)) (Ec rfl) (⟨hF.sub (.cons _ (.cons _ (.cons _ (List.nil_sublist _)))), hF.cell 2 rfl rfl⟩) ?_
 refine Cd rfl (v := .pointer (some ⟨pb, 0, none⟩)) (Ye Ge rfl) (⟨hF.sub (.cons _ (.cons _ (.cons _ (List.nil_sublist _)))), hF.cell 2 rfl rfl⟩) ?_
 refine Xa rfl (Gc Of rfl) ?_
 refine Sc rfl 2 (l := [.slice (A5) ((fs' ++ [(ls.length : Int)]).length) (c5)]) (cs' := #[.slice (A4) ((ls' ++ [lab]).length) (c4), .slice (A5) ((fs' ++ [(ls.length : Int)]).length) (c5)]) hF sizeOf39 rfl (v := .slice (A5) ((fs' ++ [(ls.length : Int)]).length) (c5)) rfl rfl Zc rfl Gb rfl ?_
 clear hF; rintro w hF -
 replace hF : FR w0 (Wk2 w0 B pb) ([(b5, .cells #[.string (bs lab)] 9), (b4, .cells #[.int .i64 ((ls.length : Nat))] 3), (pb, .cells #[.slice (A4) ((ls' ++ [lab]).length) (c4), .slice (A5) ((fs' ++ [(ls.length : Int)]).length) (c5)] 84)] ++ (L_4 ++ (N_5 ++ []))) w := hF
 refine Ac ?_
 refine Td (Nc (Ve rfl) ?_)
 exact ⟨rfl, Tb.made2 (bs_ := [_, _]) (sl := L_4) (sf := N_5) hF hT.lt hT.le hS4_L hS5_N, hF.same⟩
 refine Ji ?_ ?_
 refine Id 1 rfl hF (Ua (cs := #[.string (bs lab)]) underlying25 sizeOf9 zeroValue9 Ta Ta Db) ?_
 clear hF; rintro b6 w hb6 hF -
 refine ⟨⟨hF.sub (.cons _ (.cons _ (List.nil_sublist _))), hF.cell 1 rfl rfl⟩, ?_⟩
 refine Ji ?_ ?_
 refine Cd rfl (v := .slice P1 ls'.length q1) (Wa isAgg25 rfl (hF.cell 1 rfl rfl)) (⟨hF.sub (.cons _ (.cons _ (List.nil_sublist _))), hF.cell 1 rfl rfl⟩) ?_
 refine Ji ?_ ?_
 refine Fc [(b6, .cells #[.string (bs lab)] 9), (pb, .cells #[.slice P1 ls'.length q1, .slice P2 fs'.length q2] 84)] (sf ++ []) (news := [.string (bs lab)]) (len' := (ls' ++ [lab]).length) (ys := Xy (ls' ++ [lab])) rfl Ju hF hL rfl rfl (rfl) (fun _ => ⟨_, rfl, Ub (hF.cellsAll 0 rfl)⟩) (by simp [Value.oneCell']) (by simp only [maxLen]; omega) Ga (by simp [Xy]) by_Om ?_
 clear hF; intro A6 c6 L_6 w hS6_L hF hE hnew
 clear hE hnew
 refine ⟨⟨hF.sub (.cons _ (.cons _ (List.nil_sublist _))), hF.cell 1 rfl rfl⟩, ?_⟩
 refine Id 1 rfl hF (Ua (cs := #[.int .i64 ((ls.length : Nat))]) underlying39 sizeOf3 zeroValue3 Ta Ta Db) ?_
 clear hF; rintro b7 w hb7 hF -
 refine ⟨⟨hF.sub (.cons _ (.cons _ (.cons _ (List.nil_sublist _)))), hF.cell 2 rfl rfl⟩, ?_⟩
 refine Fc ([(b7, .cells #[.int .i64 ((ls.length : Nat))] 3), (b6, .cells #[.string (bs lab)] 9), (pb, .cells #[.slice P1 ls'.length q1, .slice P2 fs'.length q2] 84)] ++ L_6) [] (news := [.int .i64 ((ls.length : Nat))]) (len' := (fs' ++ [(ls.length : Int)]).length) (ys := Fr (fs' ++ [(ls.length : Int)])) rfl Xg hF hN rfl rfl (rfl) (fun _ => ⟨_, rfl, Ub (hF.cellsAll 0 rfl)⟩) (by simp [Value.oneCell']) (by simp only [maxLen]; omega) Ga (by simp [Fr]) by_Om ?_
 clear hF; intro A7 c7 N_7 w hS7_N hF hE hnew
 clear hE hnew
 refine ⟨⟨hF.sub (.cons _ (.cons _ (.cons _ (List.nil_sublist _)))), hF.cell 2 rfl rfl⟩, ?_⟩
 refine Xa rfl (Cf rfl) (Xa rfl (Gc Ge rfl) (Xa rfl (Gc De rfl) ?_))
 refine Vj rfl 2 (l := [.slice (A6) ((ls' ++ [lab]).length) (c6)]) (cs' := #[.slice (A6) ((ls' ++ [lab]).length) (c6), .slice P2 fs'.length q2]) hF sizeOf25 rfl (v := .slice (A6) ((ls' ++ [lab]).length) (c6)) rfl rfl Zc rfl Gb rfl ?_
 clear hF; rintro w hF -
 replace hF : FR w0 (Wk2 w0 B pb) ([(b7, .cells #[.int .i64 ((ls.length : Nat))] 3), (b6, .cells #[.string (bs lab)] 9), (pb, .cells #[.slice (A6) ((ls' ++ [lab]).length) (c6), .slice P2 fs'.length q2] 84)] ++ (L_6 ++ (N_7 ++ []))) w := hF
 refine ⟨⟨hF.sub (.cons _ (.cons _ (.cons _ (List.nil_sublist _)))), hF.cell 2 rfl rfl⟩, ?_⟩
 refine Cd rfl (v := .pointer (some ⟨pb, 0, none⟩)) (Ec rfl) (⟨hF.sub (.cons _ (.cons _ (.cons _ (List.nil_sublist _)))), hF.cell 2 rfl rfl⟩) ?_
 refine Cd rfl (v := .pointer (some ⟨pb, 0, none⟩)) (Ye Ge rfl) (⟨hF.sub (.cons _ (.cons _ (.cons _ (List.nil_sublist _)))), hF.cell 2 rfl rfl⟩) ?_
 refine Xa rfl (Gc Of rfl) ?_
 refine Sc rfl 2 (l := [.slice (A7) ((fs' ++ [(ls.length : Int)]).length) (c7)]) (cs' := #[.slice (A6) ((ls' ++ [lab]).length) (c6), .slice (A7) ((fs' ++ [(ls.length : Int)]).length) (c7)]) hF sizeOf39 rfl (v := .slice (A7) ((fs' ++ [(ls.length : Int)]).length) (c7)) rfl rfl Zc rfl Gb rfl ?_
 clear hF; rintro w hF -
 replace hF : FR w0 (Wk2 w0 B pb) ([(b7, .cells #[.int .i64 ((ls.length : Nat))] 3), (b6, .cells #[.string (bs lab)] 9), (pb, .cells #[.slice (A6) ((ls' ++ [lab]).length) (c6), .slice (A7) ((fs' ++ [(ls.length : Int)]).length) (c7)] 84)] ++ (L_6 ++ (N_7 ++ []))) w := hF
 refine Ac ?_
 refine Td (Nc (Ve rfl) ?_)
 exact ⟨rfl, Tb.made2 (bs_ := [_, _]) (sl := L_6) (sf := N_7) hF hT.lt hT.le hS6_L hS7_N, hF.same⟩
 refine Id 1 rfl hF (Ua (cs := #[.int .i64 ((ls.length : Nat))]) underlying39 sizeOf3 zeroValue3 Ta Ta Db) ?_
 clear hF; rintro b8 w hb8 hF -
 refine ⟨⟨hF.sub (.cons _ (.cons _ (.cons _ (List.nil_sublist _)))), hF.cell 2 rfl rfl⟩, ?_⟩
 refine Fc [(b8, .cells #[.int .i64 ((ls.length : Nat))] 3), (b6, .cells #[.string (bs lab)] 9), (pb, .cells #[.slice P1 ls'.length q1, .slice P2 fs'.length q2] 84)] (sf ++ []) (news := [.string (bs lab)]) (len' := (ls' ++ [lab]).length) (ys := Xy (ls' ++ [lab])) rfl Ju hF hL rfl rfl (rfl) (fun _ => ⟨_, rfl, Ub (hF.cellsAll 1 rfl)⟩) (by simp [Value.oneCell']) (by simp only [maxLen]; omega) Ga (by simp [Xy]) by_Om ?_
 clear hF; intro A8 c8 L_8 w hS8_L hF hE hnew
 clear hE hnew
 refine ⟨⟨hF.sub (.cons _ (.cons _ (.cons _ (List.nil_sublist _)))), hF.cell 2 rfl rfl⟩, ?_⟩
 refine Fc ([(b8, .cells #[.int .i64 ((ls.length : Nat))] 3), (b6, .cells #[.string (bs lab)] 9), (pb, .cells #[.slice P1 ls'.length q1, .slice P2 fs'.length q2] 84)] ++ L_8) [] (news := [.int .i64 ((ls.length : Nat))]) (len' := (fs' ++ [(ls.length : Int)]).length) (ys := Fr (fs' ++ [(ls.length : Int)])) rfl Xg hF hN rfl rfl (rfl) (fun _ => ⟨_, rfl, Ub (hF.cellsAll 0 rfl)⟩) (by simp [Value.oneCell']) (by simp only [maxLen]; omega) Ga (by simp [Fr]) by_Om ?_
 clear hF; intro A9 c9 N_9 w hS9_N hF hE hnew
 clear hE hnew
 refine ⟨⟨hF.sub (.cons _ (.cons _ (.cons _ (List.nil_sublist _)))), hF.cell 2 rfl rfl⟩, ?_⟩
 refine Xa rfl (Cf rfl) (Xa rfl (Gc Ge rfl) (Xa rfl (Gc De rfl) ?_))
 refine Vj rfl 2 (l := [.slice (A8) ((ls' ++ [lab]).length) (c8)]) (cs' := #[.slice (A8) ((ls' ++ [lab]).length) (c8), .slice P2 fs'.length q2]) hF sizeOf25 rfl (v := .slice (A8) ((ls' ++ [lab]).length) (c8)) rfl rfl Zc rfl Gb rfl ?_
 clear hF; rintro w hF -
 replace hF : FR w0 (Wk2 w0 B pb) ([(b8, .cells #[.int .i64 ((ls.length : Nat))] 3), (b6, .cells #[.string (bs lab)] 9), (pb, .cells #[.slice (A8) ((ls' ++ [lab]).length) (c8), .slice P2 fs'.length q2] 84)] ++ (L_8 ++ (N_9 ++ []))) w := hF
 refine ⟨⟨hF.sub (.cons _ (.cons _ (.cons _ (List.nil_sublist _)))), hF.cell 2 rfl rfl⟩, ?_⟩
 refine Cd rfl (v := .pointer (some ⟨pb, 0, none⟩)) (Ec rfl) (⟨hF.sub (.cons _ (.cons _ (.cons _ (List.nil_sublist _)))), hF.cell 2 rfl rfl⟩) ?_
 refine Cd rfl (v := .pointer (some ⟨pb, 0, none⟩)) (Ye Ge rfl) (⟨hF.sub (.cons _ (.cons _ (.cons _ (List.nil_sublist _)))), hF.cell 2 rfl rfl⟩) ?_
 refine Xa rfl (Gc Of rfl) ?_
 refine Sc rfl 2 (l := [.slice (A9) ((fs' ++ [(ls.length : Int)]).length) (c9)]) (cs' := #[.slice (A8) ((ls' ++ [lab]).length) (c8), .slice (A9) ((fs' ++ [(ls.length : Int)]).length) (c9)]) hF sizeOf39 rfl (v := .slice (A9) ((fs' ++ [(ls.length : Int)]).length) (c9)) rfl rfl Zc rfl Gb rfl ?_
 clear hF; rintro w hF -
 replace hF : FR w0 (Wk2 w0 B pb) ([(b8, .cells #[.int .i64 ((ls.length : Nat))] 3), (b6, .cells #[.string (bs lab)] 9), (pb, .cells #[.slice (A8) ((ls' ++ [lab]).length) (c8), .slice (A9) ((fs' ++ [(ls.length : Int)]).length) (c9)] 84)] ++ (L_8 ++ (N_9 ++ []))) w := hF
 refine Ac ?_
 refine Td (Nc (Ve rfl) ?_)
 exact ⟨rfl, Tb.made2 (bs_ := [_, _]) (sl := L_8) (sf := N_9) hF hT.lt hT.le hS8_L hS9_N, hF.same⟩
 refine Id 1 rfl hF (Ua (cs := #[.int .i64 ((ls.length : Nat))]) underlying39 sizeOf3 zeroValue3 Ta Ta Db) ?_
 clear hF; rintro b9 w hb9 hF -
 refine ⟨⟨hF.sub (.cons _ (.cons _ (.cons _ (List.nil_sublist _)))), hF.cell 2 rfl rfl⟩, ?_⟩
 refine Cd rfl (v := .slice P1 ls'.length q1) (Wa isAgg25 rfl (hF.cell 2 rfl rfl)) (⟨hF.sub (.cons _ (.cons _ (.cons _ (List.nil_sublist _)))), hF.cell 2 rfl rfl⟩) ?_
 refine Fc [(b9, .cells #[.int .i64 ((ls.length : Nat))] 3), (b6, .cells #[.string (bs lab)] 9), (pb, .cells #[.slice P1 ls'.length q1, .slice P2 fs'.length q2] 84)] (sf ++ []) (news := [.string (bs lab)]) (len' := (ls' ++ [lab]).length) (ys := Xy (ls' ++ [lab])) rfl Ju hF hL rfl rfl (rfl) (fun _ => ⟨_, rfl, Ub (hF.cellsAll 1 rfl)⟩) (by simp [Value.oneCell']) (by simp only [maxLen]; omega) Ga (by simp [Xy]) by_Om ?_
 clear hF; intro A10 c10 L_10 w hS10_L hF hE hnew
 clear hE hnew
 refine ⟨⟨hF.sub (.cons _ (.cons _ (.cons _ (List.nil_sublist _)))), hF.cell 2 rfl rfl⟩, ?_⟩
 refine Fc ([(b9, .cells #[.int .i64 ((ls.length : Nat))] 3), (b6, .cells #[.string (bs lab)] 9), (pb, .cells #[.slice P1 ls'.length q1, .slice P2 fs'.length q2] 84)] ++ L_10) [] (news := [.int .i64 ((ls.length : Nat))]) (len' := (fs' ++ [(ls.length : Int)]).length) (ys := Fr (fs' ++ [(ls.length : Int)])) rfl Xg hF hN rfl rfl (rfl) (fun _ => ⟨_, rfl, Ub (hF.cellsAll 0 rfl)⟩) (by simp [Value.oneCell']) (by simp only [maxLen]; omega) Ga (by simp [Fr]) by_Om ?_
 clear hF; intro A11 c11 N_11 w hS11_N hF hE hnew
 clear hE hnew
 refine ⟨⟨hF.sub (.cons _ (.cons _ (.cons _ (List.nil_sublist _)))), hF.cell 2 rfl rfl⟩, ?_⟩
 refine Xa rfl (Cf rfl) (Xa rfl (Gc Ge rfl) (Xa rfl (Gc De rfl) ?_))
 refine Vj rfl 2 (l := [.slice (A10) ((ls' ++ [lab]).length) (c10)]) (cs' := #[.slice (A10) ((ls' ++ [lab]).length) (c10), .slice P2 fs'.length q2]) hF sizeOf25 rfl (v := .slice (A10) ((ls' ++ [lab]).length) (c10)) rfl rfl Zc rfl Gb rfl ?_
 clear hF; rintro w hF -
 replace hF : FR w0 (Wk2 w0 B pb) ([(b9, .cells #[.int .i64 ((ls.length : Nat))] 3), (b6, .cells #[.string (bs lab)] 9), (pb, .cells #[.slice (A10) ((ls' ++ [lab]).length) (c10), .slice P2 fs'.length q2] 84)] ++ (L_10 ++ (N_11 ++ []))) w := hF
 refine ⟨⟨hF.sub (.cons _ (.cons _ (.cons _ (List.nil_sublist _)))), hF.cell 2 rfl rfl⟩, ?_⟩
 refine Cd rfl (v := .pointer (some ⟨pb, 0, none⟩)) (Ec rfl) (⟨hF.sub (.cons _ (.cons _ (.cons _ (List.nil_sublist _)))), hF.cell 2 rfl rfl⟩) ?_
 refine Cd rfl (v := .pointer (some ⟨pb, 0, none⟩)) (Ye Ge rfl) (⟨hF.sub (.cons _ (.cons _ (.cons _ (List.nil_sublist _)))), hF.cell 2 rfl rfl⟩) ?_
 refine Xa rfl (Gc Of rfl) ?_
 refine Sc rfl 2 (l := [.slice (A11) ((fs' ++ [(ls.length : Int)]).length) (c11)]) (cs' := #[.slice (A10) ((ls' ++ [lab]).length) (c10), .slice (A11) ((fs' ++ [(ls.length : Int)]).length) (c11)]) hF sizeOf39 rfl (v := .slice (A11) ((fs' ++ [(ls.length : Int)]).length) (c11)) rfl rfl Zc rfl Gb rfl ?_
 clear hF; rintro w hF -
 replace hF : FR w0 (Wk2 w0 B pb) ([(b9, .cells #[.int .i64 ((ls.length : Nat))] 3), (b6, .cells #[.string (bs lab)] 9), (pb, .cells #[.slice (A10) ((ls' ++ [lab]).length) (c10), .slice (A11) ((fs' ++ [(ls.length : Int)]).length) (c11)] 84)] ++ (L_10 ++ (N_11 ++ []))) w := hF
 refine Ac ?_
 refine Td (Nc (Ve rfl) ?_)
 exact ⟨rfl, Tb.made2 (bs_ := [_, _]) (sl := L_10) (sf := N_11) hF hT.lt hT.le hS10_L hS11_N, hF.same⟩
 refine Id 1 rfl hF (Ua (cs := #[.int .i64 ((ls.length : Nat))]) underlying39 sizeOf3 zeroValue3 Ta Ta Db) ?_
 clear hF; rintro b10 w hb10 hF -
 refine ⟨⟨hF.sub (.cons _ (.cons _ (List.nil_sublist _))), hF.cell 1 rfl rfl⟩, ?_⟩
 refine Ji ?_ ?_
 refine Cd rfl (v := .slice P1 ls'.length q1) (Wa isAgg25 rfl (hF.cell 1 rfl rfl)) (⟨hF.sub (.cons _ (.cons _ (List.nil_sublist _))), hF.cell 1 rfl rfl⟩) ?_
 refine Id 1 rfl hF (Ua (cs := #[.string (bs lab)]) underlying25 sizeOf9 zeroValue9 Ta Ta Db) ?_
 clear hF; rintro b11 w hb11 hF -
 refine ⟨⟨hF.sub (.cons _ (.cons _ (.cons _ (List.nil_sublist _)))), hF.cell 2 rfl rfl⟩, ?_⟩
 refine Fc [(b11, .cells #[.string (bs lab)] 9), (b10, .cells #[.int .i64 ((ls.length : Nat))] 3), (pb, .cells #[.slice P1 ls'.length q1, .slice P2 fs'.length q2] 84)] (sf ++ []) (news := [.string (bs lab)]) (len' := (ls' ++ [lab]).length) (ys := Xy (ls' ++ [lab])) rfl Ju hF hL rfl rfl (rfl) (fun _ => ⟨_, rfl, Ub (hF.cellsAll 0 rfl)⟩) (by simp [Value.oneCell']) (by simp only [maxLen]; omega) Ga (by simp [Xy]) by_Om ?_
 clear hF; intro A12 c12 L_12 w hS12_L hF hE hnew
 clear hE hnew
 refine ⟨⟨hF.sub (.cons _ (.cons _ (.cons _ (List.nil_sublist _)))), hF.cell 2 rfl rfl⟩, ?_⟩
 refine Fc ([(b11, .cells #[.string (bs lab)] 9), (b10, .cells #[.int .i64 ((ls.length : Nat))] 3), (pb, .cells #[.slice P1 ls'.length q1, .slice P2 fs'.length q2] 84)] ++ L_12) [] (news := [.int .i64 ((ls.length : Nat))]) (len' := (fs' ++ [(ls.length : Int)]).length) (ys := Fr (fs' ++ [(ls.length : Int)])) rfl Xg hF hN rfl rfl (rfl) (fun _ => ⟨_, rfl, Ub (hF.cellsAll 1 rfl)⟩) (by simp [Value.oneCell']) (by simp only [maxLen]; omega) Ga (by simp [Fr]) by_Om ?_
 clear hF; intro A13 c13 N_13 w hS13_N hF hE hnew
 clear hE hnew
 refine ⟨⟨hF.sub (.cons _ (.cons _ (.cons _ (List.nil_sublist _)))), hF.cell 2 rfl rfl⟩, ?_⟩
 refine Xa rfl (Cf rfl) (Xa rfl (Gc Ge rfl) (Xa rfl (Gc De rfl) ?_))
 refine Vj rfl 2 (l := [.slice (A12) ((ls' ++ [lab]).length) (c12)]) (cs' := #[.slice (A12) ((ls' ++ [lab]).length) (c12), .slice P2 fs'.length q2]) hF sizeOf25 rfl (v := .slice (A12) ((ls' ++ [lab]).length) (c12)) rfl rfl Zc rfl Gb rfl ?_
 clear hF; rintro w hF -
 replace hF : FR w0 (Wk2 w0 B pb) ([(b11, .cells #[.string (bs lab)] 9), (b10, .cells #[.int .i64 ((ls.length : Nat))] 3), (pb, .cells #[.slice (A12) ((ls' ++ [lab]).length) (c12), .slice P2 fs'.length q2] 84)] ++ (L_12 ++ (N_13 ++ []))) w := hF
 refine ⟨⟨hF.sub (.cons _ (.cons _ (.cons _ (List.nil_sublist _)))), hF.cell 2 rfl rfl⟩, ?_⟩
 refine Cd rfl (v := .pointer (some ⟨pb, 0, none⟩)) (Ec rfl) (⟨hF.sub (.cons _ (.cons _ (.cons _ (List.nil_sublist _)))), hF.cell 2 rfl rfl⟩) ?_
 refine Cd rfl (v := .pointer (some ⟨pb, 0, none⟩)) (Ye Ge rfl) (⟨hF.sub (.cons _ (.cons _ (.cons _ (List.nil_sublist _)))), hF.cell 2 rfl rfl⟩) ?_
 refine Xa rfl (Gc Of rfl) ?_
 refine Sc rfl 2 (l := [.slice (A13) ((fs' ++ [(ls.length : Int)]).length) (c13)]) (cs' := #[.slice (A12) ((ls' ++ [lab]).length) (c12), .slice (A13) ((fs' ++ [(ls.length : Int)]).length) (c13)]) hF sizeOf39 rfl (v := .slice (A13) ((fs' ++ [(ls.length : Int)]).length) (c13)) rfl rfl Zc rfl Gb rfl ?_
 clear hF; rintro w hF -
 replace hF : FR w0 (Wk2 w0 B pb) ([(b11, .cells #[.string (bs lab)] 9), (b10, .cells #[.int .i64 ((ls.length : Nat))] 3), (pb, .cells #[.slice (A12) ((ls' ++ [lab]).length) (c12), .slice (A13) ((fs' ++ [(ls.length : Int)]).length) (c13)] 84)] ++ (L_12 ++ (N_13 ++ []))) w := hF
 refine Ac ?_
 refine Td (Nc (Ve rfl) ?_)
 exact ⟨rfl, Tb.made2 (bs_ := [_, _]) (sl := L_12) (sf := N_13) hF hT.lt hT.le hS12_L hS13_N, hF.same⟩
 refine Id 1 rfl hF (Ua (cs := #[.string (bs lab)]) underlying25 sizeOf9 zeroValue9 Ta Ta Db) ?_
 clear hF; rintro b12 w hb12 hF -
 refine ⟨⟨hF.sub (.cons _ (.cons _ (.cons _ (List.nil_sublist _)))), hF.cell 2 rfl rfl⟩, ?_⟩
 refine Cd rfl (v := .slice P1 ls'.length q1) (Wa isAgg25 rfl (hF.cell 2 rfl rfl)) (⟨hF.sub (.cons _ (.cons _ (.cons _ (List.nil_sublist _)))), hF.cell 2 rfl rfl⟩) ?_
 refine Fc [(b12, .cells #[.string (bs lab)] 9), (b10, .cells #[.int .i64 ((ls.length : Nat))] 3), (pb, .cells #[.slice P1 ls'.length q1, .slice P2 fs'.length q2] 84)] (sf ++ []) (news := [.string (bs lab)]) (len' := (ls' ++ [lab]).length) (ys := Xy (ls' ++ [lab])) rfl Ju hF hL rfl rfl (rfl) (fun _ => ⟨_, rfl, Ub (hF.cellsAll 0 rfl)⟩) (by simp [Value.oneCell']) (by simp only [maxLen]; omega) Ga (by simp [Xy]) by_Om ?_
 clear hF; intro A14 c14 L_14 w hS14_L hF hE hnew
 clear hE hnew
 refine ⟨⟨hF.sub (.cons _ (.cons _ (.cons _ (List.nil_sublist _)))), hF.cell 2 rfl rfl⟩, ?_⟩
 refine Fc ([(b12, .cells #[.string (bs lab)] 9), (b10, .cells #[.int .i64 ((ls.length : Nat))] 3), (pb, .cells #[.slice P1 ls'.length q1, .slice P2 fs'.length q2] 84)] ++ L_14) [] (news := [.int .i64 ((ls.length : Nat))]) (len' := (fs' ++ [(ls.length : Int)]).length) (ys := Fr (fs' ++ [(ls.length : Int)])) rfl Xg hF hN rfl rfl (rfl) (fun _ => ⟨_, rfl, Ub (hF.cellsAll 1 rfl)⟩) (by simp [Value.oneCell']) (by simp only [maxLen]; omega) Ga (by simp [Fr]) by_Om ?_
 clear hF; intro A15 c15 N_15 w hS15_N hF hE hnew
 clear hE hnew
 refine ⟨⟨hF.sub (.cons _ (.cons _ (.cons _ (List.nil_sublist _)))), hF.cell 2 rfl rfl⟩, ?_⟩
 refine Xa rfl (Cf rfl) (Xa rfl (Gc Ge rfl) (Xa rfl (Gc De rfl) ?_))
 refine Vj rfl 2 (l := [.slice (A14) ((ls' ++ [lab]).length) (c14)]) (cs' := #[.slice (A14) ((ls' ++ [lab]).length) (c14), .slice P2 fs'.length q2]) hF sizeOf25 rfl (v := .slice (A14) ((ls' ++ [lab]).length) (c14)) rfl rfl Zc rfl Gb rfl ?_
 clear hF; rintro w hF -
 replace hF : FR w0 (Wk2 w0 B pb) ([(b12, .cells #[.string (bs lab)] 9), (b10, .cells #[.int .i64 ((ls.length : Nat))] 3), (pb, .cells #[.slice (A14) ((ls' ++ [lab]).length) (c14), .slice P2 fs'.length q2] 84)] ++ (L_14 ++ (N_15 ++ []))) w := hF
 refine ⟨⟨hF.sub (.cons _ (.cons _ (.cons _ (List.nil_sublist _)))), hF.cell 2 rfl rfl⟩, ?_⟩
 refine Cd rfl (v := .pointer (some ⟨pb, 0, none⟩)) (Ec rfl) (⟨hF.sub (.cons _ (.cons _ (.cons _ (List.nil_sublist _)))), hF.cell 2 rfl rfl⟩) ?_
 refine Cd rfl (v := .pointer (some ⟨pb, 0, none⟩)) (Ye Ge rfl) (⟨hF.sub (.cons _ (.cons _ (.cons _ (List.nil_sublist _)))), hF.cell 2 rfl rfl⟩) ?_
 refine Xa rfl (Gc Of rfl) ?_
 refine Sc rfl 2 (l := [.slice (A15) ((fs' ++ [(ls.length : Int)]).length) (c15)]) (cs' := #[.slice (A14) ((ls' ++ [lab]).length) (c14), .slice (A15) ((fs' ++ [(ls.length : Int)]).length) (c15)]) hF sizeOf39 rfl (v := .slice (A15) ((fs' ++ [(ls.length : Int)]).length) (c15)) rfl rfl Zc rfl Gb rfl ?_
 clear hF; rintro w hF -
 replace hF : FR w0 (Wk2 w0 B pb) ([(b12, .cells #[.string (bs lab)] 9), (b10, .cells #[.int .i64 ((ls.length : Nat))] 3), (pb, .cells #[.slice (A14) ((ls' ++ [lab]).length) (c14), .slice (A15) ((fs' ++ [(ls.length : Int)]).length) (c15)] 84)] ++ (L_14 ++ (N_15 ++ []))) w := hF
 refine Ac ?_
 refine Td (Nc (Ve rfl) ?_)
 exact ⟨rfl, Tb.made2 (bs_ := [_, _]) (sl := L_14) (sf := N_15) hF hT.lt hT.le hS14_L hS15_N, hF.same⟩
end Go.Scarf
namespace Go.Scarf
open Go.RowKit Go.Proofs Go.Proofs.Tryz
def DA (x : Tree) : Prop := ∀ (w0 : World) (B pb : Nat) (ls : List Str) (fs : List Int) (cs : List Value), Tb w0 B pb ls fs → Rep (fun b => b ∉ Wk2 w0 B pb) w0 (Ed x) cs → Gl w0 → 7 ≤ pb → ls.length = fs.length → Xd nodeB x = true → Qc x ≤ 1000000000 → Rf x ≤ 1073741824 → ls.length + (Bg x).length ≤ 512 →
  Calls prog 54 #[.pointer (some ⟨pb, 0, none⟩), .agg cs.toArray] w0 (Md fun v w' => v = .tuple #[] ∧ Tb w' B pb (ls ++ Bg x) (fs ++ Gj x ls.length) ∧ Same (Wk2 w0 B pb) w0 w')
theorem Xv {w : World} {b : Nat} {l : List Value} {T : TypeId} (h : w.heap[b]? = some (.cells l.toArray T)) : ∀ j (hj : j < l.length), w.cell? ((⟨b, 0, none⟩ : Addr).add j) = some l[j] := fun j hj => by
  have e : (⟨b, 0, none⟩ : Addr).add j = ⟨b, j, none⟩ := by unfold Addr.add; split <;> simp_all
  rw [e, Ib h j]
  simp [hj]
theorem Es (xs : List Tree) (b : Nat) : (Hi xs b).length = (Ef xs).length := Nt xs (fun x _ b => Hn x b) b
theorem Tn (xs : List Tree) (ks : List Str) (b : Nat) : (Ph xs ks b).length = (Ae xs ks).length := Qt xs ks (fun x _ b => Hn x b) b
theorem Hr : ∀ (xs : List Tree) (j : Nat) (h : j < xs.length), Ef (xs.take (j + 1)) = Ef (xs.take j) ++ Bg xs[j]
  | x :: xs, 0, _ => by simp [Ef]
  | x :: xs, j + 1, h => by
    rw [List.take_succ_cons, List.take_succ_cons, Ef, Ef, Hr xs j (by simpa using h), List.append_assoc]
    rfl
theorem Gw : ∀ (xs : List Tree) (j : Nat) (h : j < xs.length) (b : Nat), Hi (xs.take (j + 1)) b = Hi (xs.take j) b ++ Gj xs[j] (b + (Ef (xs.take j)).length)
  | x :: xs, 0, _, b => by simp [Hi, Ef]
  | x :: xs, j + 1, h, b => by
    rw [List.take_succ_cons, List.take_succ_cons, Hi, Hi, Ef, Gw xs j (by simpa using h), List.append_assoc, List.length_append, Nat.add_assoc]
    rfl
theorem Gy (xs : List Tree) (j : Nat) : (Ef (xs.take j)).length ≤ (Ef xs).length := by
  induction xs generalizing j with
  | nil => simp
  | cons x xs ih =>
    cases j with
    | zero => simp [Ef]
    | succ j =>
      have := ih j
      rw [List.take_succ_cons, Ef, Ef, List.length_append, List.length_append]; omega
theorem Vq : ∀ (xs : List Tree) (ks : List Str) (j : Nat) (h : j < xs.length) (h2 : j < ks.length), Ae (xs.take (j + 1)) ks = Ae (xs.take j) ks ++ (Bg xs[j] ++ [Y6 ks[j]])
  | x :: xs, k :: ks, 0, _, _ => by simp [Ae]
  | x :: xs, k :: ks, j + 1, h, h2 => by
    rw [List.take_succ_cons, List.take_succ_cons, Ae, Ae, List.tail_cons, Vq xs ks j (by simpa using h) (by simpa using h2)]
    simp
  | _ :: _, [], _, _, h2 => by simp at h2
theorem Kv : ∀ (xs : List Tree) (ks : List Str) (j : Nat) (h : j < xs.length) (h2 : j < ks.length) (b : Nat), Ph (xs.take (j + 1)) ks b = Ph (xs.take j) ks b ++ (Gj xs[j] (b + (Ae (xs.take j) ks).length) ++ [((b + (Ae (xs.take j) ks).length : Nat) : Int)])
  | x :: xs, k :: ks, 0, _, _, b => by simp [Ph, Ae]
  | x :: xs, k :: ks, j + 1, h, h2, b => by
    rw [List.take_succ_cons, List.take_succ_cons, Ph, Ph, Ae, List.tail_cons, Kv xs ks j (by simpa using h) (by simpa using h2)]
    have e : b + (Bg x ++ Y6 ((k :: ks).headD []) :: Ae (xs.take j) ks).length = b + (Bg x).length + 1 + (Ae (xs.take j) ks).length := by simp; omega
    rw [e]
    simp
  | _ :: _, [], _, _, h2, _ => by simp at h2
theorem Ky (xs : List Tree) (ks : List Str) (j : Nat) : (Ae (xs.take j) ks).length ≤ (Ae xs ks).length := by
  induction xs generalizing j ks with
  | nil => simp
  | cons x xs ih =>
    cases j with
    | zero => simp [Ae]
    | succ j =>
      have := ih ks.tail j
      rw [List.take_succ_cons, Ae, Ae, List.length_append, List.length_append, List.length_cons, List.length_cons]; omega
theorem ZD (k : Str) : ([107] : Str) ++ Pq (.node 4 k [] []) = Y6 k := rfl
theorem Bu (x : Tree) (hm : Rf x ≤ 1073741824) : (Pq x).length ≤ 140737488355328 := by
  unfold Pq
  split
  · rename_i h; exact Mz h hm false 0 0 by_Om by_Om
  · simp
theorem LL {S : Nat → Prop} {w : World} {s : Str} (h : s.length ≤ 9223372036854775807) : Rep S w (Ed (.node 4 s [] [])) [.int .i64 4, .string (bs s), .slice none 0 0, .slice none 0 0] :=
  Rep.tree_mk ⟨by omega, by omega⟩ h (Rep.nil_slice 0 by_Om none) (Rep.nil_slice 0 by_Om none)
theorem Au (s : Str) : Rf (.node 4 s [] []) = s.length := by simp [Rf, Nl, Nk]
theorem GG (w0 : World) (B pb : Nat) (ls : List Str) (fs : List Int) (hT : Tb w0 B pb ls fs) : Calls prog 81 #[] w0 (Md fun v w' => v = .tuple #[] ∧ Tb w' B pb (ls) (fs) ∧ Same (Wk2 w0 B pb) w0 w') := by
 refine Ka func81 rfl ntmps81 Gb (YB) ?_
 have hB := TW.start hT
 have hF := FR.start w0 (Wk2 w0 B pb)
 refine Cb ?_
 refine Td (Nc (Ve rfl) ?_)
 exact ⟨rfl, hB.tb, hF.same⟩
theorem HK (x : Tree) (ih : DA x) (w0 : World) (B pb : Nat) (ls : List Str) (fs : List Int) (hT : Tb w0 B pb ls fs) (hG : Gl w0) (hpN : 7 ≤ pb) (hlf : ls.length = fs.length) (k0 k1 : Nat) (cs : List Value) (h0 : w0.heap[k0]? = some (.cells #[.pointer (some ⟨pb, 0, none⟩)] 102)) (h1 : w0.heap[k1]? = some (.cells cs.toArray 27)) (hR : Rep (fun b => b ∉ Wk2 w0 B pb) w0 (Ed x) cs) (hn : Xd nodeB x = true) (hsz : Qc x ≤ 1000000000) (hm : Rf x ≤ 1073741824) (hlen : ls.length + (Bg x).length ≤ 512) : Calls prog 80 #[.pointer (some ⟨k0, 0, none⟩), .pointer (some ⟨k1, 0, none⟩)] w0 (Md fun v w' => v = .tuple #[] ∧ Tb w' B pb (ls ++ Bg x) (fs ++ Gj x ls.length) ∧ Same (Wk2 w0 B pb) w0 w') := by
 have hl : cs.length = 4 := hR.length.trans (Yd x)
 have ho := hR.one_
 refine Ka func80 rfl ntmps80 Gb (Sd _ _) ?_
 have hB := TW.start hT
 have hF := FR.start w0 (Wk2 w0 B pb)
 refine Ea (Ia (v := .pointer (some ⟨pb, 0, none⟩)) (Wa isAgg102 rfl (Ib h0 0)) (Ia (v := .agg (List.toArray cs)) (Ic (l := cs) isAgg27 sizeOf27 rfl hl (Xv h1)) ?_))
 refine Eb (ih w0 B pb ls fs cs hT hR hG hpN hlf hn hsz hm hlen) (Mb UB rfl rfl rfl) ?_
 rintro _ w ⟨rfl, hT2, hE⟩
 replace hF := hF.wrote2 hB hE Ga
 replace hB := hB.wrote hT2 hE
 clear hE
 refine Fb ?_
 refine Td (Nc (Ve rfl) ?_)
 exact ⟨rfl, hB.tb, hF.same⟩
theorem MC (k : Int) (t : Str) (ks : List Str) (xs : List Tree) (A D : Option Addr) (c e : Nat) (w0 : World) (B pb : Nat) (ls : List Str) (fs : List Int) (hT : Tb w0 B pb ls fs) (hG : Gl w0) (hpN : 7 ≤ pb) (hlf : ls.length = fs.length) (ih : ∀ x ∈ xs, DA x) (hns : ∀ x ∈ xs, Xd nodeB x = true) (hsz : Vc xs ≤ 1000000000) (hm : Nk xs ≤ 1073741824) (k0 k1 : Nat) (h0 : w0.heap[k0]? = some (.cells #[.int .i64 k, .string (bs t), .slice A ks.length c, .slice D xs.length e] 27)) (hp : w0.heap[k1]? = some (.cells #[.pointer (some ⟨pb, 0, none⟩)] 102)) (hk1 : k1 ≠ pb) (hX0 : Rep (fun b => b ∉ Wk2 w0 B pb) w0 (.slice (He xs)) [.slice D xs.length e]) (hlen : ls.length + (Ef xs).length ≤ 512) : Calls prog 76 #[.pointer (some ⟨k0, 0, none⟩), .pointer (some ⟨k1, 0, none⟩)] w0 (Md fun v w' => v = .tuple #[] ∧ Tb w' B pb (ls ++ Ef xs) (fs ++ Hi xs ls.length) ∧ Same (Wk2 w0 B pb) w0 w') := by
 have hX := hX0.toS0
 have hXl := hX.slice_len
 have hxn := En xs
 refine Ka func76 rfl ntmps76 Gb (Sd _ _) ?_
 have hB := TW.start hT
 have hF := FR.start w0 (Wk2 w0 B pb)
 refine Ma (Ca (Gc Xe rfl) (Ia (v := .slice D xs.length e) (Wa isAgg22 rfl (Ib h0 3)) (Ca (Lf underlying22 rfl) (Ca (Hb rfl) (Fa (Ya ?_))))))
 refine Uc (fun μ σ w => ∃ (j : Nat), μ = xs.length - j ∧ (j ≤ xs.length) ∧ (TW w0 (Wk2 w0 B pb) w B pb (ls ++ Ef (xs.take j)) (fs ++ Hi (xs.take j) ls.length)) ∧ (Rep (S0 w0 (Wk2 w0 B pb)) w (.slice (He xs)) [.slice D xs.length e]) ∧ (w.heap[k1]? = some (.cells #[.pointer (some ⟨pb, 0, none⟩)] 102)) ∧ AllEq σ [(1, .pointer (some ⟨k1, 0, none⟩)), (5, .slice D xs.length e), (6, .int .i64 ((xs.length : Nat))), (7, .int .i64 ((j : Int)))] ∧ FR w0 (Wk2 w0 B pb) [] w) _ ⟨0, rfl, (Nat.zero_le _), (by simpa [Ef, Hi] using hB), (hX), (hp), Dq, hF⟩ ?_
 clear hF; rintro μ σ w ⟨j, rfl, hj, hB, hX, hp, hs, hF⟩
 refine Cg.slots hs ?_
 clear hs; intro σ
 refine Ma (Ca (Yk rfl rfl) (Fa (Ja ?_)))
 refine Kc rfl rfl (fun hc0 => ?_) (fun hc0 => ?_)
 refine Cb (Ha (Ja (Ya (Ma ?_))))
 obtain ⟨ad0, cs0, hA0, hl0, hk0, hx0⟩ := hX.tree_elem (i := j) by_Om
 have ho0 := hx0.one_
 have hxe := hx0
 refine Ia (v := .pointer (some (ad0.add (j * 4)))) (Pa (i := (j : Int)) Do rfl hA0 rfl by_Om by_Om) (Ia (v := .agg (List.toArray cs0)) (Ic (l := cs0) isAgg27 sizeOf27 rfl hl0 hk0) ?_)
 refine Gu (l := cs0) hF zeroValue27 (by rw [hl0]; exact sizeOf27) (by rw [hl0]; rfl) (v := .agg (List.toArray cs0)) rfl rfl (ho0) rfl ?_
 clear hF; intro b1 w hb1 hF hE
 have hnb1 : b1 ≠ pb := by have := hB.lt; omega
 replace hB := hB.ext hE
 replace hX := hX.ext hE
 replace hxe := hxe.ext hE
 replace hp := Xi hp hE
 clear hE
 refine Fa (Ea (Ia (v := .pointer (some ⟨pb, 0, none⟩)) (Wa isAgg102 rfl (Ib hp 0)) (Ia (v := .agg (List.toArray cs0)) (Ic (l := cs0) isAgg27 sizeOf27 rfl hl0 (hF.cellsAll 0 rfl)) ?_)))
 refine Eb (ih _ (List.getElem_mem (l := xs) (n := j) by_Om) _ B pb _ _ cs0 hB.tb (hxe.toOff hB) (hG.wrote2 hF.same (by have := hT.lt; omega) hpN) hpN (by rw [List.length_append, List.length_append, Es]; omega) (hns _ (List.getElem_mem _)) (by have := Qj (List.getElem_mem (l := xs) (n := j) by_Om); omega) (by have := Vh (List.getElem_mem (l := xs) (n := j) by_Om); omega) (by have h1 := Gy xs (j + 1); rw [Hr xs j by_Om, List.length_append] at h1; rw [List.length_append]; omega)) (Mb UB rfl rfl rfl) ?_
 rintro _ w ⟨rfl, hT2, hE⟩
 replace hX := hX.offS hB hE
 replace hp := Dx hp rfl hk1 hE
 replace hF := hF.wrote2 hB hE (by intro z hz; obtain rfl := List.mem_singleton.1 hz; exact ⟨.inl rfl, by assumption⟩)
 replace hB := hB.wrote hT2 hE
 clear hE
 refine Fb (Kb (Ha (Ea (Ca (Di (((j + 1 : Nat) : Int)) rfl rfl) (Ca (Hb rfl) (Fb ?_))))))
 refine Dc ⟨_, ?_, j + 1, rfl, by_Om, (by rw [Hr xs j by_Om, Gw xs j by_Om, ← List.append_assoc, ← List.append_assoc, ← List.length_append]; exact hB), (hX), (hp), Dq, hF.drop 1⟩
 omega
 refine Lc (Jc rfl ?_)
 refine Td (Nc (Ve rfl) ?_)
 obtain rfl : j = xs.length := by omega
 rw [List.take_length] at hB
 exact ⟨rfl, hB.tb, hF.same⟩
end Go.Scarf
namespace Go.Scarf
open Go.RowKit Go.Proofs Go.Proofs.Tryz
theorem EG (k : Int) (t : Str) (ks : List Str) (xs : List Tree) (A D : Option Addr) (c e : Nat) (w0 : World) (B pb : Nat) (ls : List Str) (fs : List Int) (hT : Tb w0 B pb ls fs) (hG : Gl w0) (hpN : 7 ≤ pb) (hlf : ls.length = fs.length) (ih : ∀ x ∈ xs, DA x) (hns : ∀ x ∈ xs, Xd nodeB x = true) (hsz : Vc xs ≤ 1000000000) (hm : Nk xs ≤ 1073741824) (hkx : ks.length = xs.length) (hkm : ∀ s ∈ ks, s.length ≤ 1073741824) (k0 k1 : Nat) (h0 : w0.heap[k0]? = some (.cells #[.int .i64 k, .string (bs t), .slice A ks.length c, .slice D xs.length e] 27)) (hp : w0.heap[k1]? = some (.cells #[.pointer (some ⟨pb, 0, none⟩)] 102)) (hne0 : k0 ≠ pb) (hne1 : k1 ≠ pb) (hX0 : Rep (fun b => b ∉ Wk2 w0 B pb) w0 (.slice (He xs)) [.slice D xs.length e]) (hK0 : Rep (fun b => b ∉ Wk2 w0 B pb) w0 (Qf ks) [.slice A ks.length c]) (hlen : ls.length + (Ae xs ks).length ≤ 512) : Calls prog 77 #[.pointer (some ⟨k0, 0, none⟩), .pointer (some ⟨k1, 0, none⟩)] w0 (Md fun v w' => v = .tuple #[] ∧ Tb w' B pb (ls ++ Ae xs ks) (fs ++ Ph xs ks ls.length) ∧ Same (Wk2 w0 B pb) w0 w') := by
 have hX := hX0.toS0
 have hKs := hK0.toS0
 have hXl := hX.slice_len
 have hKl := hKs.slice_len
 have hxn := En xs
 refine Ka func77 rfl ntmps77 Gb (Sd _ _) ?_
 have hB := TW.start hT
 have hF := FR.start w0 (Wk2 w0 B pb)
 refine Ma (Ca (Gc Xe rfl) (Ia (v := .slice D xs.length e) (Wa isAgg22 rfl (Ib h0 3)) (Ca (Lf underlying22 rfl) (Ca (Hb rfl) (Fa (Ya ?_))))))
 refine Uc (fun μ σ w => ∃ (j : Nat), μ = xs.length - j ∧ (j ≤ xs.length) ∧ (TW w0 (Wk2 w0 B pb) w B pb (ls ++ Ae (xs.take j) ks) (fs ++ Ph (xs.take j) ks ls.length)) ∧ (Rep (S0 w0 (Wk2 w0 B pb)) w (.slice (He xs)) [.slice D xs.length e]) ∧ (Rep (S0 w0 (Wk2 w0 B pb)) w (Qf ks) [.slice A ks.length c]) ∧ (w.heap[k1]? = some (.cells #[.pointer (some ⟨pb, 0, none⟩)] 102)) ∧ (w.heap[k0]? = some (.cells #[.int .i64 k, .string (bs t), .slice A ks.length c, .slice D xs.length e] 27)) ∧ AllEq σ [(0, .pointer (some ⟨k0, 0, none⟩)), (1, .pointer (some ⟨k1, 0, none⟩)), (5, .slice D xs.length e), (6, .int .i64 ((xs.length : Nat))), (7, .int .i64 ((j : Int)))] ∧ FR w0 (Wk2 w0 B pb) [] w) _ ⟨0, rfl, (Nat.zero_le _), (by simpa [Ae, Ph] using hB), (hX), (hKs), (hp), (h0), Kq, hF⟩ ?_
 clear hF; rintro μ σ w ⟨j, rfl, hj, hB, hX, hKs, hp, hv, hs, hF⟩
 refine Cg.slots hs ?_
 clear hs; intro σ
 refine Ma (Ca (Yk rfl rfl) (Fa (Ja ?_)))
 refine Kc rfl rfl (fun hc0 => ?_) (fun hc0 => ?_)
 refine Cb (Ha (Ja (Ya (Ma (Ca (Hb rfl) ?_)))))
 obtain ⟨ad0, cs0, hA0, hl0, hk0, hx0⟩ := hX.tree_elem (i := j) by_Om
 have ho0 := hx0.one_
 have hxe := hx0
 refine Ia (v := .pointer (some (ad0.add (j * 4)))) (Pa (i := (j : Int)) Do rfl hA0 rfl by_Om by_Om) (Ia (v := .agg (List.toArray cs0)) (Ic (l := cs0) isAgg27 sizeOf27 rfl hl0 hk0) ?_)
 refine Lh (cs := #[.int .i64 0, .string (bs []), .slice none 0 0, .slice none 0 0]) hF zeroValue27 rfl ?_
 clear hF; intro b1 w hb1 hF hE
 have hnb1 : b1 ≠ pb := by have := hB.lt; omega
 have hgb1 : w0.heap.size ≤ b1 := by have := hB.ge; omega
 have hkb1 : k0 ≠ b1 ∧ k1 ≠ b1 := ⟨by have := Da hv; omega, by have := Da hp; omega⟩
 have hrb1 : Ol w b1 = false := (Il (hF.heap (i := 0) rfl)).trans rfl
 replace hB := hB.ext hE
 replace hX := hX.ext hE
 replace hKs := hKs.ext hE
 replace hxe := hxe.ext hE
 replace hp := Xi hp hE
 replace hv := Xi hv hE
 clear hE
 refine Ca (Pc rfl) ?_
 refine Af 0 (l := cs0) (cs' := (List.toArray cs0)) hF (by rw [hl0]; exact sizeOf27) rfl (v := .agg (List.toArray cs0)) rfl rfl (ho0) rfl (by rw [hl0]; exact Nat.le_of_ble_eq_true rfl) (Zr (by rw [hl0]; rfl)) ?_
 clear hF; intro w hF hE
 replace hB := hB.step hE (by simpa using fun e => hnb1 e.symm) (by intro z hz; obtain rfl := List.mem_singleton.1 hz; exact hrb1) (by intro z hz; obtain rfl := List.mem_singleton.1 hz; exact (Il (hF.heap (i := 0) rfl)).trans rfl)
 replace hX := hX.same hE (fun z hz hs => by obtain rfl := List.mem_singleton.1 hz; have := hs.1; omega)
 replace hKs := hKs.same hE (fun z hz hs => by obtain rfl := List.mem_singleton.1 hz; have := hs.1; omega)
 replace hxe := hxe.same hE (fun z hz hs => by obtain rfl := List.mem_singleton.1 hz; have := hs.1; omega)
 replace hp := (hE.block k1 (Da hp) (by simpa using hkb1.2)).trans hp
 replace hv := (hE.block k0 (Da hv) (by simpa using hkb1.1)).trans hv
 clear hE
 replace hF : FR w0 (Wk2 w0 B pb) [(b1, .cells (List.toArray cs0) 27)] w := hF
 refine Fa ?_
 obtain ⟨adk, hAk, -⟩ := hKs.str_elem (i := j) by_Om
 have hkl := hkm ks[j] (List.getElem_mem _)
 refine Yc [] (.free 0 (.free 1 (.free 2 (.free 3 (.free 4 (.free 5 (.free 9 (.act 6 (.act 7 (.free 8 (.act 10 .nil))))))))))) hF ?_
 clear hF; intro w hF hE
 replace hB := hB.ext hE
 replace hX := hX.ext hE
 replace hKs := hKs.ext hE
 replace hxe := hxe.ext hE
 replace hp := Xi hp hE
 replace hv := Xi hv hE
 clear hE
 refine ⟨fun wq => FR w0 (Wk2 w0 B pb) _ wq ∧ wq.heap[k1]? = some (.cells #[.pointer (some ⟨pb, 0, none⟩)] 102) ∧ wq.heap[k0]? = some (.cells #[.int .i64 k, .string (bs t), .slice A ks.length c, .slice D xs.length e] 27) ∧ Rep (S0 w0 (Wk2 w0 B pb)) wq (Qf ks) [.slice A ks.length c], ⟨hF, ⟨hp, hv, hKs⟩⟩, ?_⟩
 refine Qa rfl (v := .pointer (some ⟨pb, 0, none⟩)) (fun w hC => Wa isAgg102 rfl (Ib hC.2.1 0)) (Xa rfl (Gc Fm rfl) (Qa rfl (v := .slice A ks.length c) (fun w hC => Wa isAgg25 rfl (Ib hC.2.2.1 2)) (Xa rfl (Hb rfl) (Qa rfl (v := .pointer (some (adk.add (j * 1)))) (fun w hC => Pa (i := ((j : Nat) : Int)) Wx rfl hAk rfl by_Om by_Om) (Qa rfl (v := .string (bs (ks[j]))) (fun w hC => Wa isAgg9 rfl (JI hC.2.2.2 hAk by_Om)) (Qa rfl (v := .func (.func 80) #[] #[.pointer (some ⟨k1, 0, none⟩), .pointer (some ⟨b1, 0, none⟩)]) (fun w hC => Pk rfl rfl) ?_))))))
 refine Ce rfl (VM ks[j] _) (Ob FM rfl rfl) ?_
 rintro _ w ⟨rfl, hE⟩
 replace hF := hF.ext hE
 replace hB := hB.ext hE
 replace hX := hX.ext hE
 replace hKs := hKs.ext hE
 replace hxe := hxe.ext hE
 replace hp := Xi hp hE
 replace hv := Xi hv hE
 clear hE
 refine ⟨⟨hF, ⟨hp, hv, hKs⟩⟩, ?_⟩
 refine Ce rfl (E9 (.node 4 ks[j] [] []) (fun _ => True) _ [.int .i64 4, .string (bs ks[j]), .slice none 0 0, .slice none 0 0] (LL by_Om) (hG.wrote2 hF.same (by have := hT.lt; omega) hpN) (by simp [Qc, Vc]) (by rw [Au]; omega)) (Ob MH rfl rfl) ?_
 rintro _ w ⟨rfl, hE⟩
 replace hF := hF.ext hE
 replace hB := hB.ext hE
 replace hX := hX.ext hE
 replace hKs := hKs.ext hE
 replace hxe := hxe.ext hE
 replace hp := Xi hp hE
 replace hv := Xi hv hE
 clear hE
 refine ⟨⟨hF, ⟨hp, hv, hKs⟩⟩, ?_⟩
 refine Qa rfl (v := .string (bs (Y6 ks[j]))) (fun w hC => by rw [← ZD _]; exact Fp rfl rfl (by have := Bu (.node 4 ks[j] [] []) (by rw [Au]; omega); simp only [List.length_cons, List.length_nil]; omega)) ?_
 have hlb1 := Ky xs ks (j + 1)
 rw [Vq xs ks j by_Om by_Om, List.length_append, List.length_append, List.length_singleton] at hlb1
 have hlb2 : (ls ++ Ae (xs.take j) ks).length = ls.length + (Ae (xs.take j) ks).length := List.length_append
 refine Ce rfl (M9 w B pb 80 #[.pointer (some ⟨k1, 0, none⟩), .pointer (some ⟨b1, 0, none⟩)] EL (ls ++ Ae (xs.take j) ks) _ (fs ++ Ph (xs.take j) ks ls.length) _ (Y6 ks[j]) hB.tb (HK xs[j] (ih _ (List.getElem_mem _)) w B pb (ls ++ Ae (xs.take j) ks) (fs ++ Ph (xs.take j) ks ls.length) hB.tb (hG.wrote2 hF.same (by have := hT.lt; omega) hpN) hpN (by rw [List.length_append, List.length_append, Tn]; omega) k1 b1 _ hp (hF.heap (i := 0) rfl) (hxe.toOff hB) (hns _ (List.getElem_mem _)) (by have := Qj (List.getElem_mem (l := xs) (n := j) by_Om); omega) (by have := Vh (List.getElem_mem (l := xs) (n := j) by_Om); omega) by_Om) (by rw [List.length_append]; omega) (by rw [List.length_append, Hn, List.length_append, Tn]; omega)) (Bc O9 rfl rfl rfl rfl) ?_
 rintro _ w ⟨rfl, hT2, hE⟩
 replace hX := hX.offS hB hE
 replace hKs := hKs.offS hB hE
 replace hp := Dx hp rfl hne1 hE
 replace hv := Dx hv rfl hne0 hE
 replace hF := hF.wrote2 hB hE (by intro z hz; obtain rfl := List.mem_singleton.1 hz; exact ⟨.inl rfl, by assumption⟩)
 replace hB := hB.wrote hT2 hE
 clear hE
 refine ⟨⟨hF, ⟨hp, hv, hKs⟩⟩, ?_⟩
 refine Ac (Kb (Ha (Ea (Ca (Di (((j + 1 : Nat) : Int)) rfl rfl) (Ca (Hb rfl) (Fb ?_))))))
 refine Dc ⟨_, ?_, j + 1, rfl, by_Om, (by rw [Vq xs ks j by_Om by_Om, Kv xs ks j by_Om by_Om]; simp only [← List.append_assoc]; rw [show ls.length + (Ae (xs.take j) ks).length = (ls ++ Ae (xs.take j) ks).length from List.length_append.symm]; exact hB), (hX), (hKs), (hp), (hv), Kq, hF.drop 1⟩
 omega
 refine Lc (Jc rfl ?_)
 refine Td (Nc (Ve rfl) ?_)
 obtain rfl : j = xs.length := by omega
 rw [List.take_length] at hB
 exact ⟨rfl, hB.tb, hF.same⟩
end Go.Scarf
