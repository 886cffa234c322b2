/- A part of the proof. -/
import Derived.Test.YtepbomjpbdbejaaGreatDoorTb
import Derived.Test.YtepbomjpbdbejaaGreatDoorP3
import Derived.Test.YtepbomjpbdbejaaGreatDoorZ1
import Derived.Test.YtepbomjpbdbejaaGreatDoorW16
import Derived.Test.YtepbomjpbdbejaaGreatDoorBd
set_option linter.all false
set_option maxHeartbeats 8000000
set_option maxRecDepth 10000
namespace Go.Scarf
open Go.RowKit Go.Proofs Go.Proofs.Tryz
section
variable {w w' w0 : World} {Ds E : List Nat} {bs_ : List (Nat × Obj)} {B pb : Nat} {ls ls' : List Str} {fs fs' : List Int}
theorem Tb.made2 {A A' : Option Addr} {c c' : Nat} {sl sf : List (Nat × Obj)} (hF : FR w0 (Wk2 w0 B pb) ((bs_ ++ [(pb, .cells #[.slice A ls.length c, .slice A' fs.length c'] 84)]) ++ (sl ++ (sf ++ []))) w) (hp : pb < B) (hB : B ≤ w0.heap.size)
    (hL : SlB 9 1 A ls.length c (R3 ls) sl) (hN : SlB 3 1 A' fs.length c' (Ru fs) sf) : Tb w B pb ls fs := by
  refine Tb.made hF hp (Nat.le_trans hB hF.same.size) hL hN fun q hq => ?_
  have hm : q ∈ (bs_ ++ [(pb, Obj.cells #[.slice A ls.length c, .slice A' fs.length c'] 84)]) ++ (sl ++ (sf ++ [])) := by
    rcases List.mem_append.1 hq with h | h <;> simp [h]
  have hne : q.1 ≠ pb := by
    have := (List.pairwise_append.1 hF.desc).2.2 (pb, Obj.cells #[.slice A ls.length c, .slice A' fs.length c'] 84) Ga q (by rcases List.mem_append.1 hq with h | h <;> simp [h])
    exact this
  rcases (hF.own q hm).2 with h | h
  · omega
  · rcases Wh.1 h with h1 | ⟨-, h1, -⟩
    · exact absurd h1 hne
    · exact h1
def S0 (w0 : World) (Ds : List Nat) (b : Nat) : Prop := b < w0.heap.size ∧ b ∉ Ds
theorem Rep.offS {d : D} {cs : List Value} (h : Rep (S0 w0 Ds) w d cs) (hB : TW w0 Ds w B pb ls fs) (hs : Same (Wk2 w B pb) w w') : Rep (S0 w0 Ds) w' d cs := h.same hs fun b hb hn => hn.2 (hB.sub b hb hn.1)
theorem Rep.toOff {d : D} {cs : List Value} (h : Rep (S0 w0 Ds) w d cs) (hB : TW w0 Ds w B pb ls fs) : Rep (fun b => b ∉ Wk2 w B pb) w d cs := h.weaken fun b hb _ hm => hb.2 (hB.sub b hm hb.1)
theorem Rep.toS0 {d : D} {cs : List Value} (h : Rep (fun b => b ∉ Wk2 w0 B pb) w0 d cs) : Rep (S0 w0 (Wk2 w0 B pb)) w0 d cs := h.old.weaken fun b hb _ => ⟨hb.2, hb.1⟩
theorem Ky {b : Nat} {o : Obj} (h : w.heap[b]? = some o) (hr : M2 o = false) (hb : b ≠ pb) (hs : Same (Wk2 w B pb) w w') : w'.heap[b]? = some o := by
  refine (hs.block b (Fa h) fun hm => ?_).trans h
  rcases Wh.1 hm with h1 | ⟨-, -, h1⟩
  · exact hb h1
  · rw [Rm h, hr] at h1; cases h1
theorem Yj {b : Nat} {o : Obj} (h : w.heap[b]? = some o) (hs : Same [] w w') : w'.heap[b]? = some o := (hs.block b (Fa h) Ga).trans h
theorem Gl.wrote2 (h : Gl w0) (hs : Same (Wk2 w0 B pb) w0 w) (hb : 7 ≤ B) (hp : 7 ≤ pb) : Gl w := h.same hs fun x hx => by
  rcases Wh.1 hx with rfl | ⟨-, h1, -⟩ <;> omega
end
theorem VD (x : Tree) (S : Nat → Prop) (w0 : World) (cs : List Value) (hR : Rep S w0 (Sc x) cs) (hG : Gl w0) (hsz : Ac x ≤ 1000000000) (hm : Ee x ≤ 1073741824) : Calls prog 78 #[.agg cs.toArray] w0 (Rd fun v w' => v = .string (bs (Fm x)) ∧ Same [] w0 w') := by
 have hl : cs.length = 4 := hR.length.trans (Tc x)
 have ho := hR.one_
 refine Ma func78 rfl ntmps78 Jb (Ed _) ?_
 have hF := FR.start w0 []
 refine Ka ?_
 refine Jj (v := .agg (List.toArray cs)) (cs := (List.toArray cs)) hF rfl rfl ?_
 clear hF; rintro b1 w hb1 hF -
 refine Ca (Qj rfl) (Cc (Ja (v := .agg (List.toArray cs)) (Sb (l := cs) isAgg27 sizeOf27 rfl hl (hF.cellsAll 0 rfl)) ?_))
 refine Pb hF (KQ x _ _ cs (hF.rep hR) (hG.ext hF.same) hsz hm) (Eb MT rfl rfl) ?_
 clear hF; intro w hF
 refine Ca (Xm rfl) (Ca (TC rfl rfl) (Ca (Zn rfl rfl) (Ca (Qj rfl) (Ca (Gc rfl) (Cc (Ca (Lf rfl) (Ca (Qj rfl) (Ea ?_))))))))
 refine Xd (v := .string (bs (Fm x))) rfl rfl ?_
 exact ⟨rfl, hF.same⟩
theorem DD (w0 : World) (B pb K : Nat) (caps : Array Value) (hen : Kb prog K) (ls ls' : List Str) (fs fs' : List Int) (lab : Str) (hT : Tb w0 B pb ls fs) (hkids : Calls prog K caps w0 (Rd fun v w' => v = .tuple #[] ∧ Tb w' B pb (ls') (fs') ∧ Same (Wk2 w0 B pb) w0 w')) (hl1 : ls'.length ≤ 512) (hl2 : fs'.length ≤ 512) : Calls prog 75 #[.pointer (some ⟨pb, 0, none⟩), .string (bs lab), .func (.func K) #[] caps] w0 (Rd fun v w' => v = .tuple #[] ∧ Tb w' B pb (ls' ++ [lab]) (fs' ++ [(ls.length : Int)]) ∧ Same (Wk2 w0 B pb) w0 w') := by
 refine Ma func75 rfl ntmps75 Jb (Yi _ _ _) ?_
 have hB := TW.start hT
 have hF := FR.start w0 (Wk2 w0 B pb)
 obtain ⟨P0, q0, P9, q9, hpb⟩ := hT.len
 refine Ka (Ca (De rfl) (Ca (Of rfl) (Ca (Kc Te rfl) (Ca (Kc Je rfl) (Ja (v := .slice P0 ls.length q0) (Cb isAgg25 rfl (Ob hpb 0)) (Ca (Qe underlying25 rfl) (Ca (Gc rfl) (Cc (Ca (Z0) ?_)))))))))
 refine Db hkids (KL rfl hen Ga) ?_
 rintro _ w ⟨rfl, hT2, hE⟩
 replace hF := hF.wrote2 hB hE Ga
 replace hB := hB.wrote hT2 hE
 clear hE
 obtain ⟨P1, q1, sl, P2, q2, sf, hL, hN, hF2, -⟩ := hB.open_ hF Ga
 clear hF
 have hF : FR w0 (Wk2 w0 B pb) ([(pb, .cells #[.slice P1 ls'.length q1, .slice P2 fs'.length q2] 84)] ++ (sl ++ (sf ++ []))) w := hF2
 clear hF2
 refine Cc (Ca (De rfl) (Ca (Of rfl) (Ca (Kc Te rfl) (Ca (Kc Je rfl) (Qd (Vi isAgg25 rfl hF.F 0 rfl rfl) (Ca (Qe underlying25 rfl) (Ja (v := .bool true) (Ld (UO rfl rfl) by_Om) (Ea (Ae rfl ?_)))))))))
 refine Id [25] (.free 0 (.free 1 (.free 2 (.free 3 (.free 4 (.free 5 (.free 7 (.free 10 (.free 11 (.free 12 (.free 13 (.free 14 (.free 15 (.alt 6 (.alt 8 (.alt 9 (.act 16 (.act 17 (.free 18 (.free 19 (.free 20 (.act 21 (.act 22 (.act 23 (.free 24 (.act 25 .nil)))))))))) (.act 16 (.act 9 (.act 17 (.free 18 (.free 19 (.free 20 (.act 21 (.act 22 (.act 23 (.free 24 (.act 25 .nil)))))))))))) (.act 16 (.act 8 (.act 9 (.act 17 (.free 18 (.free 19 (.free 20 (.act 21 (.act 22 (.act 23 (.free 24 (.act 25 .nil))))))))))))) (.alt 8 (.alt 6 (.alt 9 (.act 16 (.act 17 (.free 18 (.free 19 (.free 20 (.act 21 (.act 22 (.act 23 (.free 24 (.act 25 .nil)))))))))) (.act 16 (.act 9 (.act 17 (.free 18 (.free 19 (.free 20 (.act 21 (.act 22 (.act 23 (.free 24 (.act 25 .nil)))))))))))) (.act 16 (.act 6 (.act 9 (.act 17 (.free 18 (.free 19 (.free 20 (.act 21 (.act 22 (.act 23 (.free 24 (.act 25 .nil))))))))))))) (.act 16 (.alt 6 (.act 8 (.act 9 (.act 17 (.free 18 (.free 19 (.free 20 (.act 21 (.act 22 (.act 23 (.free 24 (.act 25 .nil))))))))))) (.act 8 (.act 6 (.act 9 (.act 17 (.free 18 (.free 19 (.free 20 (.act 21 (.act 22 (.act 23 (.free 24 (.act 25 .nil))))))))))))))))))))))))))))) hF ?_
 clear hF; rintro w hF -
 refine ⟨fun wq => FR w0 (Wk2 w0 B pb) [] wq ∧ wq.cell? ⟨pb, 1, none⟩ = some (.slice P2 fs'.length q2), ⟨hF.sub (.cons _ (List.nil_sublist _)), hF.cell 0 rfl rfl⟩, ?_⟩
 refine Xa rfl (De rfl) (Xa rfl (De rfl) (Xa rfl (De rfl) (Xa rfl (Of rfl) (Xa rfl (Kc Te rfl) (Xa rfl (Kc Je rfl) (Xa rfl (Lf rfl) (Xa rfl (De rfl) (Xa rfl (Of rfl) (Xa rfl (Kc Te rfl) (Xa rfl (Kc Vf rfl) (Qa rfl (v := .slice P2 fs'.length q2) (fun w hC => Cb isAgg39 rfl hC.2) (Xa rfl (Hb rfl) ?_))))))))))))
 refine Kj ?_ ?_
 refine Pd rfl (v := .slice P1 ls'.length q1) (Cb isAgg25 rfl (hF.cell 0 rfl rfl)) (⟨hF.sub (.cons _ (List.nil_sublist _)), hF.cell 0 rfl rfl⟩) ?_
 refine Kj ?_ ?_
 refine Wd 1 rfl hF (Ua (cs := #[.string (bs lab)]) underlying25 sizeOf9 zeroValue9 Ra Ra Ib) ?_
 clear hF; rintro b1 w hb1 hF -
 refine ⟨⟨hF.sub (.cons _ (.cons _ (List.nil_sublist _))), hF.cell 1 rfl rfl⟩, ?_⟩
 refine Kj ?_ ?_
 refine Qc [(b1, .cells #[.string (bs lab)] 9), (pb, .cells #[.slice P1 ls'.length q1, .slice P2 fs'.length q2] 84)] (sf ++ []) (news := [.string (bs lab)]) (len' := (ls' ++ [lab]).length) (ys := R3 (ls' ++ [lab])) rfl Jw hF hL rfl rfl (rfl) (fun _ => ⟨_, rfl, Xb (hF.cellsAll 0 rfl)⟩) (by simp [Value.oneCell']) (by simp only [maxLen]; omega) Ga (by simp [R3]) by_Om ?_
 clear hF; intro A0 c0 L_0 w hS0_L hF hE hnew
 clear hE hnew
 refine ⟨⟨hF.sub (.cons _ (.cons _ (List.nil_sublist _))), hF.cell 1 rfl rfl⟩, ?_⟩
 refine Wd 1 rfl hF (Ua (cs := #[.int .i64 ((ls.length : Nat))]) underlying39 sizeOf3 zeroValue3 Ra Ra Ib) ?_
 clear hF; rintro b2 w hb2 hF -
 refine ⟨⟨hF.sub (.cons _ (.cons _ (.cons _ (List.nil_sublist _)))), hF.cell 2 rfl rfl⟩, ?_⟩
 refine Qc ([(b2, .cells #[.int .i64 ((ls.length : Nat))] 3), (b1, .cells #[.string (bs lab)] 9), (pb, .cells #[.slice P1 ls'.length q1, .slice P2 fs'.length q2] 84)] ++ L_0) [] (news := [.int .i64 ((ls.length : Nat))]) (len' := (fs' ++ [(ls.length : Int)]).length) (ys := Ru (fs' ++ [(ls.length : Int)])) rfl Ki hF hN rfl rfl (rfl) (fun _ => ⟨_, rfl, Xb (hF.cellsAll 0 rfl)⟩) (by simp [Value.oneCell']) (by simp only [maxLen]; omega) Ga (by simp [Ru]) by_Om ?_
 clear hF; intro A1 c1 N_1 w hS1_N hF hE hnew
 clear hE hnew
 refine ⟨⟨hF.sub (.cons _ (.cons _ (.cons _ (List.nil_sublist _)))), hF.cell 2 rfl rfl⟩, ?_⟩
 refine Xa rfl (Of rfl) (Xa rfl (Kc Te rfl) (Xa rfl (Kc Je rfl) ?_))
 refine Kl rfl 2 (l := [.slice (A0) ((ls' ++ [lab]).length) (c0)]) (cs' := #[.slice (A0) ((ls' ++ [lab]).length) (c0), .slice P2 fs'.length q2]) hF sizeOf25 rfl (v := .slice (A0) ((ls' ++ [lab]).length) (c0)) rfl rfl Od rfl Jb rfl ?_
 clear hF; rintro w hF -
 replace hF : FR w0 (Wk2 w0 B pb) ([(b2, .cells #[.int .i64 ((ls.length : Nat))] 3), (b1, .cells #[.string (bs lab)] 9), (pb, .cells #[.slice (A0) ((ls' ++ [lab]).length) (c0), .slice P2 fs'.length q2] 84)] ++ (L_0 ++ (N_1 ++ []))) w := hF
 refine ⟨⟨hF.sub (.cons _ (.cons _ (.cons _ (List.nil_sublist _)))), hF.cell 2 rfl rfl⟩, ?_⟩
 refine Pd rfl (v := .pointer (some ⟨pb, 0, none⟩)) (Rc rfl) (⟨hF.sub (.cons _ (.cons _ (.cons _ (List.nil_sublist _)))), hF.cell 2 rfl rfl⟩) ?_
 refine Pd rfl (v := .pointer (some ⟨pb, 0, none⟩)) (Jf Te rfl) (⟨hF.sub (.cons _ (.cons _ (.cons _ (List.nil_sublist _)))), hF.cell 2 rfl rfl⟩) ?_
 refine Xa rfl (Kc Vf rfl) ?_
 refine Ad rfl 2 (l := [.slice (A1) ((fs' ++ [(ls.length : Int)]).length) (c1)]) (cs' := #[.slice (A0) ((ls' ++ [lab]).length) (c0), .slice (A1) ((fs' ++ [(ls.length : Int)]).length) (c1)]) hF sizeOf39 rfl (v := .slice (A1) ((fs' ++ [(ls.length : Int)]).length) (c1)) rfl rfl Od rfl Jb rfl ?_
 clear hF; rintro w hF -
 replace hF : FR w0 (Wk2 w0 B pb) ([(b2, .cells #[.int .i64 ((ls.length : Nat))] 3), (b1, .cells #[.string (bs lab)] 9), (pb, .cells #[.slice (A0) ((ls' ++ [lab]).length) (c0), .slice (A1) ((fs' ++ [(ls.length : Int)]).length) (c1)] 84)] ++ (L_0 ++ (N_1 ++ []))) w := hF
 refine Jc ?_
 refine Fe (Yc (Ef rfl) ?_)
 exact ⟨rfl, Tb.made2 (bs_ := [_, _]) (sl := L_0) (sf := N_1) hF hT.lt hT.le hS0_L hS1_N, hF.same⟩
 refine Wd 1 rfl hF (Ua (cs := #[.int .i64 ((ls.length : Nat))]) underlying39 sizeOf3 zeroValue3 Ra Ra Ib) ?_
 clear hF; rintro b3 w hb3 hF -
 refine ⟨⟨hF.sub (.cons _ (.cons _ (.cons _ (List.nil_sublist _)))), hF.cell 2 rfl rfl⟩, ?_⟩
 refine Qc [(b3, .cells #[.int .i64 ((ls.length : Nat))] 3), (b1, .cells #[.string (bs lab)] 9), (pb, .cells #[.slice P1 ls'.length q1, .slice P2 fs'.length q2] 84)] (sf ++ []) (news := [.string (bs lab)]) (len' := (ls' ++ [lab]).length) (ys := R3 (ls' ++ [lab])) rfl Jw hF hL rfl rfl (rfl) (fun _ => ⟨_, rfl, Xb (hF.cellsAll 1 rfl)⟩) (by simp [Value.oneCell']) (by simp only [maxLen]; omega) Ga (by simp [R3]) by_Om ?_
 clear hF; intro A2 c2 L_2 w hS2_L hF hE hnew
 clear hE hnew
 refine ⟨⟨hF.sub (.cons _ (.cons _ (.cons _ (List.nil_sublist _)))), hF.cell 2 rfl rfl⟩, ?_⟩
 refine Qc ([(b3, .cells #[.int .i64 ((ls.length : Nat))] 3), (b1, .cells #[.string (bs lab)] 9), (pb, .cells #[.slice P1 ls'.length q1, .slice P2 fs'.length q2] 84)] ++ L_2) [] (news := [.int .i64 ((ls.length : Nat))]) (len' := (fs' ++ [(ls.length : Int)]).length) (ys := Ru (fs' ++ [(ls.length : Int)])) rfl Ki hF hN rfl rfl (rfl) (fun _ => ⟨_, rfl, Xb (hF.cellsAll 0 rfl)⟩) (by simp [Value.oneCell']) (by simp only [maxLen]; omega) Ga (by simp [Ru]) by_Om ?_
 clear hF; intro A3 c3 N_3 w hS3_N hF hE hnew
 clear hE hnew
 refine ⟨⟨hF.sub (.cons _ (.cons _ (.cons _ (List.nil_sublist _)))), hF.cell 2 rfl rfl⟩, ?_⟩
 refine Xa rfl (Of rfl) (Xa rfl (Kc Te rfl) (Xa rfl (Kc Je rfl) ?_))
 refine Kl rfl 2 (l := [.slice (A2) ((ls' ++ [lab]).length) (c2)]) (cs' := #[.slice (A2) ((ls' ++ [lab]).length) (c2), .slice P2 fs'.length q2]) hF sizeOf25 rfl (v := .slice (A2) ((ls' ++ [lab]).length) (c2)) rfl rfl Od rfl Jb rfl ?_
 clear hF; rintro w hF -
 replace hF : FR w0 (Wk2 w0 B pb) ([(b3, .cells #[.int .i64 ((ls.length : Nat))] 3), (b1, .cells #[.string (bs lab)] 9), (pb, .cells #[.slice (A2) ((ls' ++ [lab]).length) (c2), .slice P2 fs'.length q2] 84)] ++ (L_2 ++ (N_3 ++ []))) w := hF
 refine ⟨⟨hF.sub (.cons _ (.cons _ (.cons _ (List.nil_sublist _)))), hF.cell 2 rfl rfl⟩, ?_⟩
 refine Pd rfl (v := .pointer (some ⟨pb, 0, none⟩)) (Rc rfl) (⟨hF.sub (.cons _ (.cons _ (.cons _ (List.nil_sublist _)))), hF.cell 2 rfl rfl⟩) ?_
 refine Pd rfl (v := .pointer (some ⟨pb, 0, none⟩)) (Jf Te rfl) (⟨hF.sub (.cons _ (.cons _ (.cons _ (List.nil_sublist _)))), hF.cell 2 rfl rfl⟩) ?_
 refine Xa rfl (Kc Vf rfl) ?_
 refine Ad rfl 2 (l := [.slice (A3) ((fs' ++ [(ls.length : Int)]).length) (c3)]) (cs' := #[.slice (A2) ((ls' ++ [lab]).length) (c2), .slice (A3) ((fs' ++ [(ls.length : Int)]).length) (c3)]) hF sizeOf39 rfl (v := .slice (A3) ((fs' ++ [(ls.length : Int)]).length) (c3)) rfl rfl Od rfl Jb rfl ?_
 clear hF; rintro w hF -
 replace hF : FR w0 (Wk2 w0 B pb) ([(b3, .cells #[.int .i64 ((ls.length : Nat))] 3), (b1, .cells #[.string (bs lab)] 9), (pb, .cells #[.slice (A2) ((ls' ++ [lab]).length) (c2), .slice (A3) ((fs' ++ [(ls.length : Int)]).length) (c3)] 84)] ++ (L_2 ++ (N_3 ++ []))) w := hF
 refine Jc ?_
 refine Fe (Yc (Ef rfl) ?_)
 exact ⟨rfl, Tb.made2 (bs_ := [_, _]) (sl := L_2) (sf := N_3) hF hT.lt hT.le hS2_L hS3_N, hF.same⟩
 refine Wd 1 rfl hF (Ua (cs := #[.int .i64 ((ls.length : Nat))]) underlying39 sizeOf3 zeroValue3 Ra Ra Ib) ?_
 clear hF; rintro b4 w hb4 hF -
 refine ⟨⟨hF.sub (.cons _ (.cons _ (List.nil_sublist _))), hF.cell 1 rfl rfl⟩, ?_⟩
 refine Wd 1 rfl hF (Ua (cs := #[.string (bs lab)]) underlying25 sizeOf9 zeroValue9 Ra Ra Ib) ?_
 clear hF; rintro b5 w hb5 hF -
 refine ⟨⟨hF.sub (.cons _ (.cons _ (.cons _ (List.nil_sublist _)))), hF.cell 2 rfl rfl⟩, ?_⟩
 refine Qc [(b5, .cells #[.string (bs lab)] 9), (b4, .cells #[.int .i64 ((ls.length : Nat))] 3), (pb, .cells #[.slice P1 ls'.length q1, .slice P2 fs'.length q2] 84)] (sf ++ []) (news := [.string (bs lab)]) (len' := (ls' ++ [lab]).length) (ys := R3 (ls' ++ [lab])) rfl Jw hF hL rfl rfl (rfl) (fun _ => ⟨_, rfl, Xb (hF.cellsAll 0 rfl)⟩) (by simp [Value.oneCell']) (by simp only [maxLen]; omega) Ga (by simp [R3]) by_Om ?_
 clear hF; intro A4 c4 L_4 w hS4_L hF hE hnew
 clear hE hnew
 refine ⟨⟨hF.sub (.cons _ (.cons _ (.cons _ (List.nil_sublist _)))), hF.cell 2 rfl rfl⟩, ?_⟩
 refine Qc ([(b5, .cells #[.string (bs lab)] 9), (b4, .cells #[.int .i64 ((ls.length : Nat))] 3), (pb, .cells #[.slice P1 ls'.length q1, .slice P2 fs'.length q2] 84)] ++ L_4) [] (news := [.int .i64 ((ls.length : Nat))]) (len' := (fs' ++ [(ls.length : Int)]).length) (ys := Ru (fs' ++ [(ls.length : Int)])) rfl Ki hF hN rfl rfl (rfl) (fun _ => ⟨_, rfl, Xb (hF.cellsAll 1 rfl)⟩) (by simp [Value.oneCell']) (by simp only [maxLen]; omega) Ga (by simp [Ru]) by_Om ?_
 clear hF; intro A5 c5 N_5 w hS5_N hF hE hnew
 clear hE hnew
 refine ⟨⟨hF.sub (.cons _ (.cons _ (.cons _ (List.nil_sublist _)))), hF.cell 2 rfl rfl⟩, ?_⟩
 refine Xa rfl (Of rfl) (Xa rfl (Kc Te rfl) (Xa rfl (Kc Je rfl) ?_))
 refine Kl rfl 2 (l := [.slice (A4) ((ls' ++ [lab]).length) (c4)]) (cs' := #[.slice (A4) ((ls' ++ [lab]).length) (c4), .slice P2 fs'.length q2]) hF sizeOf25 rfl (v := .slice (A4) ((ls' ++ [lab]).length) (c4)) rfl rfl Od rfl Jb rfl ?_
 clear hF; rintro w hF -
 replace hF : FR w0 (Wk2 w0 B pb) ([(b5, .cells #[.string (bs lab)] 9), (b4, .cells #[.int .i64 ((ls.length : Nat))] 3), (pb, .cells #[.slice (A4) ((ls' ++ [lab]).length) (c4), .slice P2 fs'.length q2] 84)] ++ (L_4 ++ (N_5 ++ []))) w := hF
 refine ⟨⟨hF.sub (.cons _ (.cons _ (.cons _ (List.nil_sublist _)))), hF.cell 2 rfl rfl⟩, ?_⟩
 refine Pd rfl (v := .pointer (some ⟨pb, 0, none⟩)) (Rc rfl) (⟨hF.sub (.cons _ (.cons _ (.cons _ (List.nil_sublist _)))), hF.cell 2 rfl rfl⟩) ?_
 refine Pd rfl (v := .pointer (some ⟨pb, 0, none⟩)) (Jf Te rfl) (⟨hF.sub (.cons _ (.cons _ (.cons _ (List.nil_sublist _)))), hF.cell 2 rfl rfl⟩) ?_
 refine Xa rfl (Kc Vf rfl) ?_
 refine Ad rfl 2 (l := [.slice (A5) ((fs' ++ [(ls.length : Int)]).length) (c5)]) (cs' := #[.slice (A4) ((ls' ++ [lab]).length) (c4), .slice (A5) ((fs' ++ [(ls.length : Int)]).length) (c5)]) hF sizeOf39 rfl (v := .slice (A5) ((fs' ++ [(ls.length : Int)]).length) (c5)) rfl rfl Od rfl Jb rfl ?_
 clear hF; rintro w hF -
 replace hF : FR w0 (Wk2 w0 B pb) ([(b5, .cells #[.string (bs lab)] 9), (b4, .cells #[.int .i64 ((ls.length : Nat))] 3), (pb, .cells #[.slice (A4) ((ls' ++ [lab]).length) (c4), .slice (A5) ((fs' ++ [(ls.length : Int)]).length) (c5)] 84)] ++ (L_4 ++ (N_5 ++ []))) w := hF
 refine Jc ?_
 refine Fe (Yc (Ef rfl) ?_)
 exact ⟨rfl, Tb.made2 (bs_ := [_, _]) (sl := L_4) (sf := N_5) hF hT.lt hT.le hS4_L hS5_N, hF.same⟩
 refine Kj ?_ ?_
 refine Wd 1 rfl hF (Ua (cs := #[.string (bs lab)]) underlying25 sizeOf9 zeroValue9 Ra Ra Ib) ?_
 clear hF; rintro b6 w hb6 hF -
 refine ⟨⟨hF.sub (.cons _ (.cons _ (List.nil_sublist _))), hF.cell 1 rfl rfl⟩, ?_⟩
 refine Kj ?_ ?_
 refine Pd rfl (v := .slice P1 ls'.length q1) (Cb isAgg25 rfl (hF.cell 1 rfl rfl)) (⟨hF.sub (.cons _ (.cons _ (List.nil_sublist _))), hF.cell 1 rfl rfl⟩) ?_
 refine Kj ?_ ?_
 refine Qc [(b6, .cells #[.string (bs lab)] 9), (pb, .cells #[.slice P1 ls'.length q1, .slice P2 fs'.length q2] 84)] (sf ++ []) (news := [.string (bs lab)]) (len' := (ls' ++ [lab]).length) (ys := R3 (ls' ++ [lab])) rfl Jw hF hL rfl rfl (rfl) (fun _ => ⟨_, rfl, Xb (hF.cellsAll 0 rfl)⟩) (by simp [Value.oneCell']) (by simp only [maxLen]; omega) Ga (by simp [R3]) by_Om ?_
 clear hF; intro A6 c6 L_6 w hS6_L hF hE hnew
 clear hE hnew
 refine ⟨⟨hF.sub (.cons _ (.cons _ (List.nil_sublist _))), hF.cell 1 rfl rfl⟩, ?_⟩
 refine Wd 1 rfl hF (Ua (cs := #[.int .i64 ((ls.length : Nat))]) underlying39 sizeOf3 zeroValue3 Ra Ra Ib) ?_
 clear hF; rintro b7 w hb7 hF -
 refine ⟨⟨hF.sub (.cons _ (.cons _ (.cons _ (List.nil_sublist _)))), hF.cell 2 rfl rfl⟩, ?_⟩
 refine Qc ([(b7, .cells #[.int .i64 ((ls.length : Nat))] 3), (b6, .cells #[.string (bs lab)] 9), (pb, .cells #[.slice P1 ls'.length q1, .slice P2 fs'.length q2] 84)] ++ L_6) [] (news := [.int .i64 ((ls.length : Nat))]) (len' := (fs' ++ [(ls.length : Int)]).length) (ys := Ru (fs' ++ [(ls.length : Int)])) rfl Ki hF hN rfl rfl (rfl) (fun _ => ⟨_, rfl, Xb (hF.cellsAll 0 rfl)⟩) (by simp [Value.oneCell']) (by simp only [maxLen]; omega) Ga (by simp [Ru]) by_Om ?_
 clear hF; intro A7 c7 N_7 w hS7_N hF hE hnew
 clear hE hnew
 refine ⟨⟨hF.sub (.cons _ (.cons _ (.cons _ (List.nil_sublist _)))), hF.cell 2 rfl rfl⟩, ?_⟩
 refine Xa rfl (Of rfl) (Xa rfl (Kc Te rfl) (Xa rfl (Kc Je rfl) ?_))
 refine Kl rfl 2 (l := [.slice (A6) ((ls' ++ [lab]).length) (c6)]) (cs' := #[.slice (A6) ((ls' ++ [lab]).length) (c6), .slice P2 fs'.length q2]) hF sizeOf25 rfl (v := .slice (A6) ((ls' ++ [lab]).length) (c6)) rfl rfl Od rfl Jb rfl ?_
 clear hF; rintro w hF -
 replace hF : FR w0 (Wk2 w0 B pb) ([(b7, .cells #[.int .i64 ((ls.length : Nat))] 3), (b6, .cells #[.string (bs lab)] 9), (pb, .cells #[.slice (A6) ((ls' ++ [lab]).length) (c6), .slice P2 fs'.length q2] 84)] ++ (L_6 ++ (N_7 ++ []))) w := hF
 refine ⟨⟨hF.sub (.cons _ (.cons _ (.cons _ (List.nil_sublist _)))), hF.cell 2 rfl rfl⟩, ?_⟩
 refine Pd rfl (v := .pointer (some ⟨pb, 0, none⟩)) (Rc rfl) (⟨hF.sub (.cons _ (.cons _ (.cons _ (List.nil_sublist _)))), hF.cell 2 rfl rfl⟩) ?_
 refine Pd rfl (v := .pointer (some ⟨pb, 0, none⟩)) (Jf Te rfl) (⟨hF.sub (.cons _ (.cons _ (.cons _ (List.nil_sublist _)))), hF.cell 2 rfl rfl⟩) ?_
 refine Xa rfl (Kc Vf rfl) ?_
 refine Ad rfl 2 (l := [.slice (A7) ((fs' ++ [(ls.length : Int)]).length) (c7)]) (cs' := #[.slice (A6) ((ls' ++ [lab]).length) (c6), .slice (A7) ((fs' ++ [(ls.length : Int)]).length) (c7)]) hF sizeOf39 rfl (v := .slice (A7) ((fs' ++ [(ls.length : Int)]).length) (c7)) rfl rfl Od rfl Jb rfl ?_
 clear hF; rintro w hF -
 replace hF : FR w0 (Wk2 w0 B pb) ([(b7, .cells #[.int .i64 ((ls.length : Nat))] 3), (b6, .cells #[.string (bs lab)] 9), (pb, .cells #[.slice (A6) ((ls' ++ [lab]).length) (c6), .slice (A7) ((fs' ++ [(ls.length : Int)]).length) (c7)] 84)] ++ (L_6 ++ (N_7 ++ []))) w := hF
 refine Jc ?_
 refine Fe (Yc (Ef rfl) ?_)
 exact ⟨rfl, Tb.made2 (bs_ := [_, _]) (sl := L_6) (sf := N_7) hF hT.lt hT.le hS6_L hS7_N, hF.same⟩
 refine Wd 1 rfl hF (Ua (cs := #[.int .i64 ((ls.length : Nat))]) underlying39 sizeOf3 zeroValue3 Ra Ra Ib) ?_
 clear hF; rintro b8 w hb8 hF -
 refine ⟨⟨hF.sub (.cons _ (.cons _ (.cons _ (List.nil_sublist _)))), hF.cell 2 rfl rfl⟩, ?_⟩
 refine Qc [(b8, .cells #[.int .i64 ((ls.length : Nat))] 3), (b6, .cells #[.string (bs lab)] 9), (pb, .cells #[.slice P1 ls'.length q1, .slice P2 fs'.length q2] 84)] (sf ++ []) (news := [.string (bs lab)]) (len' := (ls' ++ [lab]).length) (ys := R3 (ls' ++ [lab])) rfl Jw hF hL rfl rfl (rfl) (fun _ => ⟨_, rfl, Xb (hF.cellsAll 1 rfl)⟩) (by simp [Value.oneCell']) (by simp only [maxLen]; omega) Ga (by simp [R3]) by_Om ?_
 clear hF; intro A8 c8 L_8 w hS8_L hF hE hnew
 clear hE hnew
 refine ⟨⟨hF.sub (.cons _ (.cons _ (.cons _ (List.nil_sublist _)))), hF.cell 2 rfl rfl⟩, ?_⟩
 refine Qc ([(b8, .cells #[.int .i64 ((ls.length : Nat))] 3), (b6, .cells #[.string (bs lab)] 9), (pb, .cells #[.slice P1 ls'.length q1, .slice P2 fs'.length q2] 84)] ++ L_8) [] (news := [.int .i64 ((ls.length : Nat))]) (len' := (fs' ++ [(ls.length : Int)]).length) (ys := Ru (fs' ++ [(ls.length : Int)])) rfl Ki hF hN rfl rfl (rfl) (fun _ => ⟨_, rfl, Xb (hF.cellsAll 0 rfl)⟩) (by simp [Value.oneCell']) (by simp only [maxLen]; omega) Ga (by simp [Ru]) by_Om ?_
 clear hF; intro A9 c9 N_9 w hS9_N hF hE hnew
 clear hE hnew
 refine ⟨⟨hF.sub (.cons _ (.cons _ (.cons _ (List.nil_sublist _)))), hF.cell 2 rfl rfl⟩, ?_⟩
 refine Xa rfl (Of rfl) (Xa rfl (Kc Te rfl) (Xa rfl (Kc Je rfl) ?_))
 refine Kl rfl 2 (l := [.slice (A8) ((ls' ++ [lab]).length) (c8)]) (cs' := #[.slice (A8) ((ls' ++ [lab]).length) (c8), .slice P2 fs'.length q2]) hF sizeOf25 rfl (v := .slice (A8) ((ls' ++ [lab]).length) (c8)) rfl rfl Od rfl Jb rfl ?_
 clear hF; rintro w hF -
 replace hF : FR w0 (Wk2 w0 B pb) ([(b8, .cells #[.int .i64 ((ls.length : Nat))] 3), (b6, .cells #[.string (bs lab)] 9), (pb, .cells #[.slice (A8) ((ls' ++ [lab]).length) (c8), .slice P2 fs'.length q2] 84)] ++ (L_8 ++ (N_9 ++ []))) w := hF
 refine ⟨⟨hF.sub (.cons _ (.cons _ (.cons _ (List.nil_sublist _)))), hF.cell 2 rfl rfl⟩, ?_⟩
 refine Pd rfl (v := .pointer (some ⟨pb, 0, none⟩)) (Rc rfl) (⟨hF.sub (.cons _ (.cons _ (.cons _ (List.nil_sublist _)))), hF.cell 2 rfl rfl⟩) ?_
 refine Pd rfl (v := .pointer (some ⟨pb, 0, none⟩)) (Jf Te rfl) (⟨hF.sub (.cons _ (.cons _ (.cons _ (List.nil_sublist _)))), hF.cell 2 rfl rfl⟩) ?_
 refine Xa rfl (Kc Vf rfl) ?_
 refine Ad rfl 2 (l := [.slice (A9) ((fs' ++ [(ls.length : Int)]).length) (c9)]) (cs' := #[.slice (A8) ((ls' ++ [lab]).length) (c8), .slice (A9) ((fs' ++ [(ls.length : Int)]).length) (c9)]) hF sizeOf39 rfl (v := .slice (A9) ((fs' ++ [(ls.length : Int)]).length) (c9)) rfl rfl Od rfl Jb rfl ?_
 clear hF; rintro w hF -
 replace hF : FR w0 (Wk2 w0 B pb) ([(b8, .cells #[.int .i64 ((ls.length : Nat))] 3), (b6, .cells #[.string (bs lab)] 9), (pb, .cells #[.slice (A8) ((ls' ++ [lab]).length) (c8), .slice (A9) ((fs' ++ [(ls.length : Int)]).length) (c9)] 84)] ++ (L_8 ++ (N_9 ++ []))) w := hF
 refine Jc ?_
 refine Fe (Yc (Ef rfl) ?_)
 exact ⟨rfl, Tb.made2 (bs_ := [_, _]) (sl := L_8) (sf := N_9) hF hT.lt hT.le hS8_L hS9_N, hF.same⟩
 refine Wd 1 rfl hF (Ua (cs := #[.int .i64 ((ls.length : Nat))]) underlying39 sizeOf3 zeroValue3 Ra Ra Ib) ?_
 clear hF; rintro b9 w hb9 hF -
 refine ⟨⟨hF.sub (.cons _ (.cons _ (.cons _ (List.nil_sublist _)))), hF.cell 2 rfl rfl⟩, ?_⟩
 refine Pd rfl (v := .slice P1 ls'.length q1) (Cb isAgg25 rfl (hF.cell 2 rfl rfl)) (⟨hF.sub (.cons _ (.cons _ (.cons _ (List.nil_sublist _)))), hF.cell 2 rfl rfl⟩) ?_
 refine Qc [(b9, .cells #[.int .i64 ((ls.length : Nat))] 3), (b6, .cells #[.string (bs lab)] 9), (pb, .cells #[.slice P1 ls'.length q1, .slice P2 fs'.length q2] 84)] (sf ++ []) (news := [.string (bs lab)]) (len' := (ls' ++ [lab]).length) (ys := R3 (ls' ++ [lab])) rfl Jw hF hL rfl rfl (rfl) (fun _ => ⟨_, rfl, Xb (hF.cellsAll 1 rfl)⟩) (by simp [Value.oneCell']) (by simp only [maxLen]; omega) Ga (by simp [R3]) by_Om ?_
 clear hF; intro A10 c10 L_10 w hS10_L hF hE hnew
 clear hE hnew
 refine ⟨⟨hF.sub (.cons _ (.cons _ (.cons _ (List.nil_sublist _)))), hF.cell 2 rfl rfl⟩, ?_⟩
 refine Qc ([(b9, .cells #[.int .i64 ((ls.length : Nat))] 3), (b6, .cells #[.string (bs lab)] 9), (pb, .cells #[.slice P1 ls'.length q1, .slice P2 fs'.length q2] 84)] ++ L_10) [] (news := [.int .i64 ((ls.length : Nat))]) (len' := (fs' ++ [(ls.length : Int)]).length) (ys := Ru (fs' ++ [(ls.length : Int)])) rfl Ki hF hN rfl rfl (rfl) (fun _ => ⟨_, rfl, Xb (hF.cellsAll 0 rfl)⟩) (by simp [Value.oneCell']) (by simp only [maxLen]; omega) Ga (by simp [Ru]) by_Om ?_
 clear hF; intro A11 c11 N_11 w hS11_N hF hE hnew
 clear hE hnew
 refine ⟨⟨hF.sub (.cons _ (.cons _ (.cons _ (List.nil_sublist _)))), hF.cell 2 rfl rfl⟩, ?_⟩
 refine Xa rfl (Of rfl) (Xa rfl (Kc Te rfl) (Xa rfl (Kc Je rfl) ?_))
 refine Kl rfl 2 (l := [.slice (A10) ((ls' ++ [lab]).length) (c10)]) (cs' := #[.slice (A10) ((ls' ++ [lab]).length) (c10), .slice P2 fs'.length q2]) hF sizeOf25 rfl (v := .slice (A10) ((ls' ++ [lab]).length) (c10)) rfl rfl Od rfl Jb rfl ?_
 clear hF; rintro w hF -
 replace hF : FR w0 (Wk2 w0 B pb) ([(b9, .cells #[.int .i64 ((ls.length : Nat))] 3), (b6, .cells #[.string (bs lab)] 9), (pb, .cells #[.slice (A10) ((ls' ++ [lab]).length) (c10), .slice P2 fs'.length q2] 84)] ++ (L_10 ++ (N_11 ++ []))) w := hF
 refine ⟨⟨hF.sub (.cons _ (.cons _ (.cons _ (List.nil_sublist _)))), hF.cell 2 rfl rfl⟩, ?_⟩
 refine Pd rfl (v := .pointer (some ⟨pb, 0, none⟩)) (Rc rfl) (⟨hF.sub (.cons _ (.cons _ (.cons _ (List.nil_sublist _)))), hF.cell 2 rfl rfl⟩) ?_
 refine Pd rfl (v := .pointer (some ⟨pb, 0, none⟩)) (Jf Te rfl) (⟨hF.sub (.cons _ (.cons _ (.cons _ (List.nil_sublist _)))), hF.cell 2 rfl rfl⟩) ?_
 refine Xa rfl (Kc Vf rfl) ?_
 refine Ad rfl 2 (l := [.slice (A11) ((fs' ++ [(ls.length : Int)]).length) (c11)]) (cs' := #[.slice (A10) ((ls' ++ [lab]).length) (c10), .slice (A11) ((fs' ++ [(ls.length : Int)]).length) (c11)]) hF sizeOf39 rfl (v := .slice (A11) ((fs' ++ [(ls.length : Int)]).length) (c11)) rfl rfl Od rfl Jb rfl ?_
 clear hF; rintro w hF -
 replace hF : FR w0 (Wk2 w0 B pb) ([(b9, .cells #[.int .i64 ((ls.length : Nat))] 3), (b6, .cells #[.string (bs lab)] 9), (pb, .cells #[.slice (A10) ((ls' ++ [lab]).length) (c10), .slice (A11) ((fs' ++ [(ls.length : Int)]).length) (c11)] 84)] ++ (L_10 ++ (N_11 ++ []))) w := hF
 refine Jc ?_
 refine Fe (Yc (Ef rfl) ?_)
 exact ⟨rfl, Tb.made2 (bs_ := [_, _]) (sl := L_10) (sf := N_11) hF hT.lt hT.le hS10_L hS11_N, hF.same⟩
 refine Wd 1 rfl hF (Ua (cs := #[.int .i64 ((ls.length : Nat))]) underlying39 sizeOf3 zeroValue3 Ra Ra Ib) ?_
 clear hF; rintro b10 w hb10 hF -
 refine ⟨⟨hF.sub (.cons _ (.cons _ (List.nil_sublist _))), hF.cell 1 rfl rfl⟩, ?_⟩
 refine Kj ?_ ?_
 refine Pd rfl (v := .slice P1 ls'.length q1) (Cb isAgg25 rfl (hF.cell 1 rfl rfl)) (⟨hF.sub (.cons _ (.cons _ (List.nil_sublist _))), hF.cell 1 rfl rfl⟩) ?_
 refine Wd 1 rfl hF (Ua (cs := #[.string (bs lab)]) underlying25 sizeOf9 zeroValue9 Ra Ra Ib) ?_
 clear hF; rintro b11 w hb11 hF -
 refine ⟨⟨hF.sub (.cons _ (.cons _ (.cons _ (List.nil_sublist _)))), hF.cell 2 rfl rfl⟩, ?_⟩
 refine Qc [(b11, .cells #[.string (bs lab)] 9), (b10, .cells #[.int .i64 ((ls.length : Nat))] 3), (pb, .cells #[.slice P1 ls'.length q1, .slice P2 fs'.length q2] 84)] (sf ++ []) (news := [.string (bs lab)]) (len' := (ls' ++ [lab]).length) (ys := R3 (ls' ++ [lab])) rfl Jw hF hL rfl rfl (rfl) (fun _ => ⟨_, rfl, Xb (hF.cellsAll 0 rfl)⟩) (by simp [Value.oneCell']) (by simp only [maxLen]; omega) Ga (by simp [R3]) by_Om ?_
 clear hF; intro A12 c12 L_12 w hS12_L hF hE hnew
 clear hE hnew
 refine ⟨⟨hF.sub (.cons _ (.cons _ (.cons _ (List.nil_sublist _)))), hF.cell 2 rfl rfl⟩, ?_⟩
 refine Qc ([(b11, .cells #[.string (bs lab)] 9), (b10, .cells #[.int .i64 ((ls.length : Nat))] 3), (pb, .cells #[.slice P1 ls'.length q1, .slice P2 fs'.length q2] 84)] ++ L_12) [] (news := [.int .i64 ((ls.length : Nat))]) (len' := (fs' ++ [(ls.length : Int)]).length) (ys := Ru (fs' ++ [(ls.length : Int)])) rfl Ki hF hN rfl rfl (rfl) (fun _ => ⟨_, rfl, Xb (hF.cellsAll 1 rfl)⟩) (by simp [Value.oneCell']) (by simp only [maxLen]; omega) Ga (by simp [Ru]) by_Om ?_
 clear hF; intro A13 c13 N_13 w hS13_N hF hE hnew
 clear hE hnew
 refine ⟨⟨hF.sub (.cons _ (.cons _ (.cons _ (List.nil_sublist _)))), hF.cell 2 rfl rfl⟩, ?_⟩
 refine Xa rfl (Of rfl) (Xa rfl (Kc Te rfl) (Xa rfl (Kc Je rfl) ?_))
 refine Kl rfl 2 (l := [.slice (A12) ((ls' ++ [lab]).length) (c12)]) (cs' := #[.slice (A12) ((ls' ++ [lab]).length) (c12), .slice P2 fs'.length q2]) hF sizeOf25 rfl (v := .slice (A12) ((ls' ++ [lab]).length) (c12)) rfl rfl Od rfl Jb rfl ?_
 clear hF; rintro w hF -
 replace hF : FR w0 (Wk2 w0 B pb) ([(b11, .cells #[.string (bs lab)] 9), (b10, .cells #[.int .i64 ((ls.length : Nat))] 3), (pb, .cells #[.slice (A12) ((ls' ++ [lab]).length) (c12), .slice P2 fs'.length q2] 84)] ++ (L_12 ++ (N_13 ++ []))) w := hF
 refine ⟨⟨hF.sub (.cons _ (.cons _ (.cons _ (List.nil_sublist _)))), hF.cell 2 rfl rfl⟩, ?_⟩
 refine Pd rfl (v := .pointer (some ⟨pb, 0, none⟩)) (Rc rfl) (⟨hF.sub (.cons _ (.cons _ (.cons _ (List.nil_sublist _)))), hF.cell 2 rfl rfl⟩) ?_
 refine Pd rfl (v := .pointer (some ⟨pb, 0, none⟩)) (Jf Te rfl) (⟨hF.sub (.cons _ (.cons _ (.cons _ (List.nil_sublist _)))), hF.cell 2 rfl rfl⟩) ?_
 refine Xa rfl (Kc Vf rfl) ?_
 refine Ad rfl 2 (l := [.slice (A13) ((fs' ++ [(ls.length : Int)]).length) (c13)]) (cs' := #[.slice (A12) ((ls' ++ [lab]).length) (c12), .slice (A13) ((fs' ++ [(ls.length : Int)]).length) (c13)]) hF sizeOf39 rfl (v := .slice (A13) ((fs' ++ [(ls.length : Int)]).length) (c13)) rfl rfl Od rfl Jb rfl ?_
 clear hF; rintro w hF -
 replace hF : FR w0 (Wk2 w0 B pb) ([(b11, .cells #[.string (bs lab)] 9), (b10, .cells #[.int .i64 ((ls.length : Nat))] 3), (pb, .cells #[.slice (A12) ((ls' ++ [lab]).length) (c12), .slice (A13) ((fs' ++ [(ls.length : Int)]).length) (c13)] 84)] ++ (L_12 ++ (N_13 ++ []))) w := hF
 refine Jc ?_
 refine Fe (Yc (Ef rfl) ?_)
 exact ⟨rfl, Tb.made2 (bs_ := [_, _]) (sl := L_12) (sf := N_13) hF hT.lt hT.le hS12_L hS13_N, hF.same⟩
 refine Wd 1 rfl hF (Ua (cs := #[.string (bs lab)]) underlying25 sizeOf9 zeroValue9 Ra Ra Ib) ?_
 clear hF; rintro b12 w hb12 hF -
 refine ⟨⟨hF.sub (.cons _ (.cons _ (.cons _ (List.nil_sublist _)))), hF.cell 2 rfl rfl⟩, ?_⟩
 refine Pd rfl (v := .slice P1 ls'.length q1) (Cb isAgg25 rfl (hF.cell 2 rfl rfl)) (⟨hF.sub (.cons _ (.cons _ (.cons _ (List.nil_sublist _)))), hF.cell 2 rfl rfl⟩) ?_
 refine Qc [(b12, .cells #[.string (bs lab)] 9), (b10, .cells #[.int .i64 ((ls.length : Nat))] 3), (pb, .cells #[.slice P1 ls'.length q1, .slice P2 fs'.length q2] 84)] (sf ++ []) (news := [.string (bs lab)]) (len' := (ls' ++ [lab]).length) (ys := R3 (ls' ++ [lab])) rfl Jw hF hL rfl rfl (rfl) (fun _ => ⟨_, rfl, Xb (hF.cellsAll 0 rfl)⟩) (by simp [Value.oneCell']) (by simp only [maxLen]; omega) Ga (by simp [R3]) by_Om ?_
 clear hF; intro A14 c14 L_14 w hS14_L hF hE hnew
 clear hE hnew
 refine ⟨⟨hF.sub (.cons _ (.cons _ (.cons _ (List.nil_sublist _)))), hF.cell 2 rfl rfl⟩, ?_⟩
 refine Qc ([(b12, .cells #[.string (bs lab)] 9), (b10, .cells #[.int .i64 ((ls.length : Nat))] 3), (pb, .cells #[.slice P1 ls'.length q1, .slice P2 fs'.length q2] 84)] ++ L_14) [] (news := [.int .i64 ((ls.length : Nat))]) (len' := (fs' ++ [(ls.length : Int)]).length) (ys := Ru (fs' ++ [(ls.length : Int)])) rfl Ki hF hN rfl rfl (rfl) (fun _ => ⟨_, rfl, Xb (hF.cellsAll 1 rfl)⟩) (by simp [Value.oneCell']) (by simp only [maxLen]; omega) Ga (by simp [Ru]) by_Om ?_
 clear hF; intro A15 c15 N_15 w hS15_N hF hE hnew
 clear hE hnew
 refine ⟨⟨hF.sub (.cons _ (.cons _ (.cons _ (List.nil_sublist _)))), hF.cell 2 rfl rfl⟩, ?_⟩
 refine Xa rfl (Of rfl) (Xa rfl (Kc Te rfl) (Xa rfl (Kc Je rfl) ?_))
 refine Kl rfl 2 (l := [.slice (A14) ((ls' ++ [lab]).length) (c14)]) (cs' := #[.slice (A14) ((ls' ++ [lab]).length) (c14), .slice P2 fs'.length q2]) hF sizeOf25 rfl (v := .slice (A14) ((ls' ++ [lab]).length) (c14)) rfl rfl Od rfl Jb rfl ?_
 clear hF; rintro w hF -
 replace hF : FR w0 (Wk2 w0 B pb) ([(b12, .cells #[.string (bs lab)] 9), (b10, .cells #[.int .i64 ((ls.length : Nat))] 3), (pb, .cells #[.slice (A14) ((ls' ++ [lab]).length) (c14), .slice P2 fs'.length q2] 84)] ++ (L_14 ++ (N_15 ++ []))) w := hF
 refine ⟨⟨hF.sub (.cons _ (.cons _ (.cons _ (List.nil_sublist _)))), hF.cell 2 rfl rfl⟩, ?_⟩
 refine Pd rfl (v := .pointer (some ⟨pb, 0, none⟩)) (Rc rfl) (⟨hF.sub (.cons _ (.cons _ (.cons _ (List.nil_sublist _)))), hF.cell 2 rfl rfl⟩) ?_
 refine Pd rfl (v := .pointer (some ⟨pb, 0, none⟩)) (Jf Te rfl) (⟨hF.sub (.cons _ (.cons _ (.cons _ (List.nil_sublist _)))), hF.cell 2 rfl rfl⟩) ?_
 refine Xa rfl (Kc Vf rfl) ?_
 refine Ad rfl 2 (l := [.slice (A15) ((fs' ++ [(ls.length : Int)]).length) (c15)]) (cs' := #[.slice (A14) ((ls' ++ [lab]).length) (c14), .slice (A15) ((fs' ++ [(ls.length : Int)]).length) (c15)]) hF sizeOf39 rfl (v := .slice (A15) ((fs' ++ [(ls.length : Int)]).length) (c15)) rfl rfl Od rfl Jb rfl ?_
 clear hF; rintro w hF -
 replace hF : FR w0 (Wk2 w0 B pb) ([(b12, .cells #[.string (bs lab)] 9), (b10, .cells #[.int .i64 ((ls.length : Nat))] 3), (pb, .cells #[.slice (A14) ((ls' ++ [lab]).length) (c14), .slice (A15) ((fs' ++ [(ls.length : Int)]).length) (c15)] 84)] ++ (L_14 ++ (N_15 ++ []))) w := hF
 refine Jc ?_
 refine Fe (Yc (Ef rfl) ?_)
 exact ⟨rfl, Tb.made2 (bs_ := [_, _]) (sl := L_14) (sf := N_15) hF hT.lt hT.le hS14_L hS15_N, hF.same⟩
end Go.Scarf
namespace Go.Scarf
open Go.RowKit Go.Proofs Go.Proofs.Tryz
def PG (x : Tree) : Prop := ∀ (w0 : World) (B pb : Nat) (ls : List Str) (fs : List Int) (cs : List Value), Tb w0 B pb ls fs → Rep (fun b => b ∉ Wk2 w0 B pb) w0 (Sc x) cs → Gl w0 → 7 ≤ pb → ls.length = fs.length → Vc nodeB x = true → Ac x ≤ 1000000000 → Ee x ≤ 1073741824 → ls.length + (Nf x).length ≤ 512 →
  Calls prog 54 #[.pointer (some ⟨pb, 0, none⟩), .agg cs.toArray] w0 (Rd fun v w' => v = .tuple #[] ∧ Tb w' B pb (ls ++ Nf x) (fs ++ Oh x ls.length) ∧ Same (Wk2 w0 B pb) w0 w')
theorem Qy {w : World} {b : Nat} {l : List Value} {T : TypeId} (h : w.heap[b]? = some (.cells l.toArray T)) : ∀ j (hj : j < l.length), w.cell? ((⟨b, 0, none⟩ : Addr).add j) = some l[j] := fun j hj => by
  have e : (⟨b, 0, none⟩ : Addr).add j = ⟨b, j, none⟩ := by unfold Addr.add; split <;> simp_all
  rw [e, Ob h j]
  simp [hj]
theorem Mt (xs : List Tree) (b : Nat) : (Qg xs b).length = (Oe xs).length := Fw xs (fun x _ b => Pi x b) b
theorem Fp (xs : List Tree) (ks : List Str) (b : Nat) : (Qf xs ks b).length = (Yd xs ks).length := Lv xs ks (fun x _ b => Pi x b) b
theorem Ts : ∀ (xs : List Tree) (j : Nat) (h : j < xs.length), Oe (xs.take (j + 1)) = Oe (xs.take j) ++ Nf xs[j]
  | x :: xs, 0, _ => by simp [Oe]
  | x :: xs, j + 1, h => by
    rw [List.take_succ_cons, List.take_succ_cons, Oe, Oe, Ts xs j (by simpa using h), List.append_assoc]
    rfl
theorem Wz : ∀ (xs : List Tree) (j : Nat) (h : j < xs.length) (b : Nat), Qg (xs.take (j + 1)) b = Qg (xs.take j) b ++ Oh xs[j] (b + (Oe (xs.take j)).length)
  | x :: xs, 0, _, b => by simp [Qg, Oe]
  | x :: xs, j + 1, h, b => by
    rw [List.take_succ_cons, List.take_succ_cons, Qg, Qg, Oe, Wz xs j (by simpa using h), List.append_assoc, List.length_append, Nat.add_assoc]
    rfl
theorem O1 (xs : List Tree) (j : Nat) : (Oe (xs.take j)).length ≤ (Oe xs).length := by
  induction xs generalizing j with
  | nil => simp
  | cons x xs ih =>
    cases j with
    | zero => simp [Oe]
    | succ j =>
      have := ih j
      rw [List.take_succ_cons, Oe, Oe, List.length_append, List.length_append]; omega
theorem Hs : ∀ (xs : List Tree) (ks : List Str) (j : Nat) (h : j < xs.length) (h2 : j < ks.length), Yd (xs.take (j + 1)) ks = Yd (xs.take j) ks ++ (Nf xs[j] ++ [K6 ks[j]])
  | x :: xs, k :: ks, 0, _, _ => by simp [Yd]
  | x :: xs, k :: ks, j + 1, h, h2 => by
    rw [List.take_succ_cons, List.take_succ_cons, Yd, Yd, List.tail_cons, Hs xs ks j (by simpa using h) (by simpa using h2)]
    simp
  | _ :: _, [], _, _, h2 => by simp at h2
theorem Lz : ∀ (xs : List Tree) (ks : List Str) (j : Nat) (h : j < xs.length) (h2 : j < ks.length) (b : Nat), Qf (xs.take (j + 1)) ks b = Qf (xs.take j) ks b ++ (Oh xs[j] (b + (Yd (xs.take j) ks).length) ++ [((b + (Yd (xs.take j) ks).length : Nat) : Int)])
  | x :: xs, k :: ks, 0, _, _, b => by simp [Qf, Yd]
  | x :: xs, k :: ks, j + 1, h, h2, b => by
    rw [List.take_succ_cons, List.take_succ_cons, Qf, Qf, Yd, List.tail_cons, Lz xs ks j (by simpa using h) (by simpa using h2)]
    have e : b + (Nf x ++ K6 ((k :: ks).headD []) :: Yd (xs.take j) ks).length = b + (Nf x).length + 1 + (Yd (xs.take j) ks).length := by simp; omega
    rw [e]
    simp
  | _ :: _, [], _, _, h2, _ => by simp at h2
theorem L1 (xs : List Tree) (ks : List Str) (j : Nat) : (Yd (xs.take j) ks).length ≤ (Yd xs ks).length := by
  induction xs generalizing j ks with
  | nil => simp
  | cons x xs ih =>
    cases j with
    | zero => simp [Yd]
    | succ j =>
      have := ih ks.tail j
      rw [List.take_succ_cons, Yd, Yd, List.length_append, List.length_append, List.length_cons, List.length_cons]; omega
theorem MJ (k : Str) : ([107] : Str) ++ Fm (.node 4 k [] []) = K6 k := rfl
theorem Kv (x : Tree) (hm : Ee x ≤ 1073741824) : (Fm x).length ≤ 140737488355328 := by
  unfold Fm
  split
  · rename_i h; exact N2 h hm false 0 0 by_Om by_Om
  · simp
theorem XS {S : Nat → Prop} {w : World} {s : Str} (h : s.length ≤ 9223372036854775807) : Rep S w (Sc (.node 4 s [] [])) [.int .i64 4, .string (bs s), .slice none 0 0, .slice none 0 0] :=
  Rep.tree_mk ⟨by omega, by omega⟩ h (Rep.nil_slice 0 by_Om none) (Rep.nil_slice 0 by_Om none)
theorem Iv (s : Str) : Ee (.node 4 s [] []) = s.length := by simp [Ee, Hm, Rj]
theorem GM (w0 : World) (B pb : Nat) (ls : List Str) (fs : List Int) (hT : Tb w0 B pb ls fs) : Calls prog 81 #[] w0 (Rd fun v w' => v = .tuple #[] ∧ Tb w' B pb (ls) (fs) ∧ Same (Wk2 w0 B pb) w0 w') := by
 refine Ma func81 rfl ntmps81 Jb (TK) ?_
 have hB := TW.start hT
 have hF := FR.start w0 (Wk2 w0 B pb)
 refine Wa ?_
 refine Fe (Yc (Ef rfl) ?_)
 exact ⟨rfl, hB.tb, hF.same⟩
theorem PQ (x : Tree) (ih : PG x) (w0 : World) (B pb : Nat) (ls : List Str) (fs : List Int) (hT : Tb w0 B pb ls fs) (hG : Gl w0) (hpN : 7 ≤ pb) (hlf : ls.length = fs.length) (k0 k1 : Nat) (cs : List Value) (h0 : w0.heap[k0]? = some (.cells #[.pointer (some ⟨pb, 0, none⟩)] 102)) (h1 : w0.heap[k1]? = some (.cells cs.toArray 27)) (hR : Rep (fun b => b ∉ Wk2 w0 B pb) w0 (Sc x) cs) (hn : Vc nodeB x = true) (hsz : Ac x ≤ 1000000000) (hm : Ee x ≤ 1073741824) (hlen : ls.length + (Nf x).length ≤ 512) : Calls prog 80 #[.pointer (some ⟨k0, 0, none⟩), .pointer (some ⟨k1, 0, none⟩)] w0 (Rd fun v w' => v = .tuple #[] ∧ Tb w' B pb (ls ++ Nf x) (fs ++ Oh x ls.length) ∧ Same (Wk2 w0 B pb) w0 w') := by
 have hl : cs.length = 4 := hR.length.trans (Tc x)
 have ho := hR.one_
 refine Ma func80 rfl ntmps80 Jb (Vd _ _) ?_
 have hB := TW.start hT
 have hF := FR.start w0 (Wk2 w0 B pb)
 refine Da (Ja (v := .pointer (some ⟨pb, 0, none⟩)) (Cb isAgg102 rfl (Ob h0 0)) (Ja (v := .agg (List.toArray cs)) (Sb (l := cs) isAgg27 sizeOf27 rfl hl (Qy h1)) ?_))
 refine Db (ih w0 B pb ls fs cs hT hR hG hpN hlf hn hsz hm hlen) (Qb AH rfl rfl rfl) ?_
 rintro _ w ⟨rfl, hT2, hE⟩
 replace hF := hF.wrote2 hB hE Ga
 replace hB := hB.wrote hT2 hE
 clear hE
 refine Ya ?_
 refine Fe (Yc (Ef rfl) ?_)
 exact ⟨rfl, hB.tb, hF.same⟩
theorem XK (k : Int) (t : Str) (ks : List Str) (xs : List Tree) (A D : Option Addr) (c e : Nat) (w0 : World) (B pb : Nat) (ls : List Str) (fs : List Int) (hT : Tb w0 B pb ls fs) (hG : Gl w0) (hpN : 7 ≤ pb) (hlf : ls.length = fs.length) (ih : ∀ x ∈ xs, PG x) (hns : ∀ x ∈ xs, Vc nodeB x = true) (hsz : Xc xs ≤ 1000000000) (hm : Rj xs ≤ 1073741824) (k0 k1 : Nat) (h0 : w0.heap[k0]? = some (.cells #[.int .i64 k, .string (bs t), .slice A ks.length c, .slice D xs.length e] 27)) (hp : w0.heap[k1]? = some (.cells #[.pointer (some ⟨pb, 0, none⟩)] 102)) (hk1 : k1 ≠ pb) (hX0 : Rep (fun b => b ∉ Wk2 w0 B pb) w0 (.slice (Dd xs)) [.slice D xs.length e]) (hlen : ls.length + (Oe xs).length ≤ 512) : Calls prog 76 #[.pointer (some ⟨k0, 0, none⟩), .pointer (some ⟨k1, 0, none⟩)] w0 (Rd fun v w' => v = .tuple #[] ∧ Tb w' B pb (ls ++ Oe xs) (fs ++ Qg xs ls.length) ∧ Same (Wk2 w0 B pb) w0 w') := by
 have hX := hX0.toS0
 have hXl := hX.slice_len
 have hxn := To xs
 refine Ma func76 rfl ntmps76 Jb (Vd _ _) ?_
 have hB := TW.start hT
 have hF := FR.start w0 (Wk2 w0 B pb)
 refine Ka (Ca (Kc Ce rfl) (Ja (v := .slice D xs.length e) (Cb isAgg22 rfl (Ob h0 3)) (Ca (Qe underlying22 rfl) (Ca (Hb rfl) (Ea (Va ?_))))))
 refine Uc (fun μ σ w => ∃ (j : Nat), μ = xs.length - j ∧ (j ≤ xs.length) ∧ (TW w0 (Wk2 w0 B pb) w B pb (ls ++ Oe (xs.take j)) (fs ++ Qg (xs.take j) ls.length)) ∧ (Rep (S0 w0 (Wk2 w0 B pb)) w (.slice (Dd xs)) [.slice D xs.length e]) ∧ (w.heap[k1]? = some (.cells #[.pointer (some ⟨pb, 0, none⟩)] 102)) ∧ AllEq σ [(1, .pointer (some ⟨k1, 0, none⟩)), (5, .slice D xs.length e), (6, .int .i64 ((xs.length : Nat))), (7, .int .i64 ((j : Int)))] ∧ FR w0 (Wk2 w0 B pb) [] w) _ ⟨0, rfl, (Nat.zero_le _), (by simpa [Oe, Qg] using hB), (hX), (hp), Gt, hF⟩ ?_
 clear hF; rintro μ σ w ⟨j, rfl, hj, hB, hX, hp, hs, hF⟩
 refine Cg.slots hs ?_
 clear hs; intro σ
 refine Ka (Ca (Nk rfl rfl) (Ea (Ia ?_)))
 refine Pc rfl rfl (fun hc0 => ?_) (fun hc0 => ?_)
 refine Wa (Ha (Ia (Va (Ka ?_))))
 obtain ⟨ad0, cs0, hA0, hl0, hk0, hx0⟩ := hX.tree_elem (i := j) by_Om
 have ho0 := hx0.one_
 have hxe := hx0
 refine Ja (v := .pointer (some (ad0.add (j * 4)))) (Oa (i := (j : Int)) Hi rfl hA0 rfl by_Om by_Om) (Ja (v := .agg (List.toArray cs0)) (Sb (l := cs0) isAgg27 sizeOf27 rfl hl0 hk0) ?_)
 refine Tr (l := cs0) hF zeroValue27 (by rw [hl0]; exact sizeOf27) (by rw [hl0]; rfl) (v := .agg (List.toArray cs0)) rfl rfl (ho0) rfl ?_
 clear hF; intro b1 w hb1 hF hE
 have hnb1 : b1 ≠ pb := by have := hB.lt; omega
 replace hB := hB.ext hE
 replace hX := hX.ext hE
 replace hxe := hxe.ext hE
 replace hp := Yj hp hE
 clear hE
 refine Ea (Da (Ja (v := .pointer (some ⟨pb, 0, none⟩)) (Cb isAgg102 rfl (Ob hp 0)) (Ja (v := .agg (List.toArray cs0)) (Sb (l := cs0) isAgg27 sizeOf27 rfl hl0 (hF.cellsAll 0 rfl)) ?_)))
 refine Db (ih _ (List.getElem_mem (l := xs) (n := j) by_Om) _ B pb _ _ cs0 hB.tb (hxe.toOff hB) (hG.wrote2 hF.same (by have := hT.lt; omega) hpN) hpN (by rw [List.length_append, List.length_append, Mt]; omega) (hns _ (List.getElem_mem _)) (by have := Qk (List.getElem_mem (l := xs) (n := j) by_Om); omega) (by have := Ni (List.getElem_mem (l := xs) (n := j) by_Om); omega) (by have h1 := O1 xs (j + 1); rw [Ts xs j by_Om, List.length_append] at h1; rw [List.length_append]; omega)) (Qb AH rfl rfl rfl) ?_
 rintro _ w ⟨rfl, hT2, hE⟩
 replace hX := hX.offS hB hE
 replace hp := Ky hp rfl hk1 hE
 replace hF := hF.wrote2 hB hE (by intro z hz; obtain rfl := List.mem_singleton.1 hz; exact ⟨.inl rfl, by assumption⟩)
 replace hB := hB.wrote hT2 hE
 clear hE
 refine Ya (Mb (Ha (Da (Ca (Qi (((j + 1 : Nat) : Int)) rfl rfl) (Ca (Hb rfl) (Ya ?_))))))
 refine Ic ⟨_, ?_, j + 1, rfl, by_Om, (by rw [Ts xs j by_Om, Wz xs j by_Om, ← List.append_assoc, ← List.append_assoc, ← List.length_append]; exact hB), (hX), (hp), Gt, hF.drop 1⟩
 omega
 refine Nc (Lc rfl ?_)
 refine Fe (Yc (Ef rfl) ?_)
 obtain rfl : j = xs.length := by omega
 rw [List.take_length] at hB
 exact ⟨rfl, hB.tb, hF.same⟩
end Go.Scarf
namespace Go.Scarf
open Go.RowKit Go.Proofs Go.Proofs.Tryz
theorem BM (k : Int) (t : Str) (ks : List Str) (xs : List Tree) (A D : Option Addr) (c e : Nat) (w0 : World) (B pb : Nat) (ls : List Str) (fs : List Int) (hT : Tb w0 B pb ls fs) (hG : Gl w0) (hpN : 7 ≤ pb) (hlf : ls.length = fs.length) (ih : ∀ x ∈ xs, PG x) (hns : ∀ x ∈ xs, Vc nodeB x = true) (hsz : Xc xs ≤ 1000000000) (hm : Rj xs ≤ 1073741824) (hkx : ks.length = xs.length) (hkm : ∀ s ∈ ks, s.length ≤ 1073741824) (k0 k1 : Nat) (h0 : w0.heap[k0]? = some (.cells #[.int .i64 k, .string (bs t), .slice A ks.length c, .slice D xs.length e] 27)) (hp : w0.heap[k1]? = some (.cells #[.pointer (some ⟨pb, 0, none⟩)] 102)) (hne0 : k0 ≠ pb) (hne1 : k1 ≠ pb) (hX0 : Rep (fun b => b ∉ Wk2 w0 B pb) w0 (.slice (Dd xs)) [.slice D xs.length e]) (hK0 : Rep (fun b => b ∉ Wk2 w0 B pb) w0 (Gf ks) [.slice A ks.length c]) (hlen : ls.length + (Yd xs ks).length ≤ 512) : Calls prog 77 #[.pointer (some ⟨k0, 0, none⟩), .pointer (some ⟨k1, 0, none⟩)] w0 (Rd fun v w' => v = .tuple #[] ∧ Tb w' B pb (ls ++ Yd xs ks) (fs ++ Qf xs ks ls.length) ∧ Same (Wk2 w0 B pb) w0 w') := by
 have hX := hX0.toS0
 have hKs := hK0.toS0
 have hXl := hX.slice_len
 have hKl := hKs.slice_len
 have hxn := To xs
 refine Ma func77 rfl ntmps77 Jb (Vd _ _) ?_
 have hB := TW.start hT
 have hF := FR.start w0 (Wk2 w0 B pb)
 refine Ka (Ca (Kc Ce rfl) (Ja (v := .slice D xs.length e) (Cb isAgg22 rfl (Ob h0 3)) (Ca (Qe underlying22 rfl) (Ca (Hb rfl) (Ea (Va ?_))))))
 refine Uc (fun μ σ w => ∃ (j : Nat), μ = xs.length - j ∧ (j ≤ xs.length) ∧ (TW w0 (Wk2 w0 B pb) w B pb (ls ++ Yd (xs.take j) ks) (fs ++ Qf (xs.take j) ks ls.length)) ∧ (Rep (S0 w0 (Wk2 w0 B pb)) w (.slice (Dd xs)) [.slice D xs.length e]) ∧ (Rep (S0 w0 (Wk2 w0 B pb)) w (Gf ks) [.slice A ks.length c]) ∧ (w.heap[k1]? = some (.cells #[.pointer (some ⟨pb, 0, none⟩)] 102)) ∧ (w.heap[k0]? = some (.cells #[.int .i64 k, .string (bs t), .slice A ks.length c, .slice D xs.length e] 27)) ∧ AllEq σ [(0, .pointer (some ⟨k0, 0, none⟩)), (1, .pointer (some ⟨k1, 0, none⟩)), (5, .slice D xs.length e), (6, .int .i64 ((xs.length : Nat))), (7, .int .i64 ((j : Int)))] ∧ FR w0 (Wk2 w0 B pb) [] w) _ ⟨0, rfl, (Nat.zero_le _), (by simpa [Yd, Qf] using hB), (hX), (hKs), (hp), (h0), Jr, hF⟩ ?_
 clear hF; rintro μ σ w ⟨j, rfl, hj, hB, hX, hKs, hp, hv, hs, hF⟩
 refine Cg.slots hs ?_
 clear hs; intro σ
 refine Ka (Ca (Nk rfl rfl) (Ea (Ia ?_)))
 refine Pc rfl rfl (fun hc0 => ?_) (fun hc0 => ?_)
 refine Wa (Ha (Ia (Va (Ka (Ca (Hb rfl) ?_)))))
 obtain ⟨ad0, cs0, hA0, hl0, hk0, hx0⟩ := hX.tree_elem (i := j) by_Om
 have ho0 := hx0.one_
 have hxe := hx0
 refine Ja (v := .pointer (some (ad0.add (j * 4)))) (Oa (i := (j : Int)) Hi rfl hA0 rfl by_Om by_Om) (Ja (v := .agg (List.toArray cs0)) (Sb (l := cs0) isAgg27 sizeOf27 rfl hl0 hk0) ?_)
 refine Ig (cs := #[.int .i64 0, .string (bs []), .slice none 0 0, .slice none 0 0]) hF zeroValue27 rfl ?_
 clear hF; intro b1 w hb1 hF hE
 have hnb1 : b1 ≠ pb := by have := hB.lt; omega
 have hgb1 : w0.heap.size ≤ b1 := by have := hB.ge; omega
 have hkb1 : k0 ≠ b1 ∧ k1 ≠ b1 := ⟨by have := Fa hv; omega, by have := Fa hp; omega⟩
 have hrb1 : En w b1 = false := (Rm (hF.heap (i := 0) rfl)).trans rfl
 replace hB := hB.ext hE
 replace hX := hX.ext hE
 replace hKs := hKs.ext hE
 replace hxe := hxe.ext hE
 replace hp := Yj hp hE
 replace hv := Yj hv hE
 clear hE
 refine Ca (Gc rfl) ?_
 refine Bf 0 (l := cs0) (cs' := (List.toArray cs0)) hF (by rw [hl0]; exact sizeOf27) rfl (v := .agg (List.toArray cs0)) rfl rfl (ho0) rfl (by rw [hl0]; exact Nat.le_of_ble_eq_true rfl) (Rl (by rw [hl0]; rfl)) ?_
 clear hF; intro w hF hE
 replace hB := hB.step hE (by simpa using fun e => hnb1 e.symm) (by intro z hz; obtain rfl := List.mem_singleton.1 hz; exact hrb1) (by intro z hz; obtain rfl := List.mem_singleton.1 hz; exact (Rm (hF.heap (i := 0) rfl)).trans rfl)
 replace hX := hX.same hE (fun z hz hs => by obtain rfl := List.mem_singleton.1 hz; have := hs.1; omega)
 replace hKs := hKs.same hE (fun z hz hs => by obtain rfl := List.mem_singleton.1 hz; have := hs.1; omega)
 replace hxe := hxe.same hE (fun z hz hs => by obtain rfl := List.mem_singleton.1 hz; have := hs.1; omega)
 replace hp := (hE.block k1 (Fa hp) (by simpa using hkb1.2)).trans hp
 replace hv := (hE.block k0 (Fa hv) (by simpa using hkb1.1)).trans hv
 clear hE
 replace hF : FR w0 (Wk2 w0 B pb) [(b1, .cells (List.toArray cs0) 27)] w := hF
 refine Ea ?_
 obtain ⟨adk, hAk, -⟩ := hKs.str_elem (i := j) by_Om
 have hkl := hkm ks[j] (List.getElem_mem _)
 refine Id [] (.free 0 (.free 1 (.free 2 (.free 3 (.free 4 (.free 5 (.free 9 (.act 6 (.act 7 (.free 8 (.act 10 .nil))))))))))) hF ?_
 clear hF; intro w hF hE
 replace hB := hB.ext hE
 replace hX := hX.ext hE
 replace hKs := hKs.ext hE
 replace hxe := hxe.ext hE
 replace hp := Yj hp hE
 replace hv := Yj hv hE
 clear hE
 refine ⟨fun wq => FR w0 (Wk2 w0 B pb) _ wq ∧ wq.heap[k1]? = some (.cells #[.pointer (some ⟨pb, 0, none⟩)] 102) ∧ wq.heap[k0]? = some (.cells #[.int .i64 k, .string (bs t), .slice A ks.length c, .slice D xs.length e] 27) ∧ Rep (S0 w0 (Wk2 w0 B pb)) wq (Gf ks) [.slice A ks.length c], ⟨hF, ⟨hp, hv, hKs⟩⟩, ?_⟩
 refine Qa rfl (v := .pointer (some ⟨pb, 0, none⟩)) (fun w hC => Cb isAgg102 rfl (Ob hC.2.1 0)) (Xa rfl (Kc Zj rfl) (Qa rfl (v := .slice A ks.length c) (fun w hC => Cb isAgg25 rfl (Ob hC.2.2.1 2)) (Xa rfl (Hb rfl) (Qa rfl (v := .pointer (some (adk.add (j * 1)))) (fun w hC => Oa (i := ((j : Nat) : Int)) Lw rfl hAk rfl by_Om by_Om) (Qa rfl (v := .string (bs (ks[j]))) (fun w hC => Cb isAgg9 rfl (MP hC.2.2.2 hAk by_Om)) (Qa rfl (v := .func (.func 80) #[] #[.pointer (some ⟨k1, 0, none⟩), .pointer (some ⟨b1, 0, none⟩)]) (fun w hC => Nm rfl rfl) ?_))))))
 refine Ke rfl (IU ks[j] _) (Eb IT rfl rfl) ?_
 rintro _ w ⟨rfl, hE⟩
 replace hF := hF.ext hE
 replace hB := hB.ext hE
 replace hX := hX.ext hE
 replace hKs := hKs.ext hE
 replace hxe := hxe.ext hE
 replace hp := Yj hp hE
 replace hv := Yj hv hE
 clear hE
 refine ⟨⟨hF, ⟨hp, hv, hKs⟩⟩, ?_⟩
 refine Ke rfl (VD (.node 4 ks[j] [] []) (fun _ => True) _ [.int .i64 4, .string (bs ks[j]), .slice none 0 0, .slice none 0 0] (XS by_Om) (hG.wrote2 hF.same (by have := hT.lt; omega) hpN) (by simp [Ac, Xc]) (by rw [Iv]; omega)) (Eb HO rfl rfl) ?_
 rintro _ w ⟨rfl, hE⟩
 replace hF := hF.ext hE
 replace hB := hB.ext hE
 replace hX := hX.ext hE
 replace hKs := hKs.ext hE
 replace hxe := hxe.ext hE
 replace hp := Yj hp hE
 replace hv := Yj hv hE
 clear hE
 refine ⟨⟨hF, ⟨hp, hv, hKs⟩⟩, ?_⟩
 refine Qa rfl (v := .string (bs (K6 ks[j]))) (fun w hC => by rw [← MJ _]; exact Uq rfl rfl (by have := Kv (.node 4 ks[j] [] []) (by rw [Iv]; omega); simp only [List.length_cons, List.length_nil]; omega)) ?_
 have hlb1 := L1 xs ks (j + 1)
 rw [Hs xs ks j by_Om by_Om, List.length_append, List.length_append, List.length_singleton] at hlb1
 have hlb2 : (ls ++ Yd (xs.take j) ks).length = ls.length + (Yd (xs.take j) ks).length := List.length_append
 refine Ke rfl (DD w B pb 80 #[.pointer (some ⟨k1, 0, none⟩), .pointer (some ⟨b1, 0, none⟩)] ZS (ls ++ Yd (xs.take j) ks) _ (fs ++ Qf (xs.take j) ks ls.length) _ (K6 ks[j]) hB.tb (PQ xs[j] (ih _ (List.getElem_mem _)) w B pb (ls ++ Yd (xs.take j) ks) (fs ++ Qf (xs.take j) ks ls.length) hB.tb (hG.wrote2 hF.same (by have := hT.lt; omega) hpN) hpN (by rw [List.length_append, List.length_append, Fp]; omega) k1 b1 _ hp (hF.heap (i := 0) rfl) (hxe.toOff hB) (hns _ (List.getElem_mem _)) (by have := Qk (List.getElem_mem (l := xs) (n := j) by_Om); omega) (by have := Ni (List.getElem_mem (l := xs) (n := j) by_Om); omega) by_Om) (by rw [List.length_append]; omega) (by rw [List.length_append, Pi, List.length_append, Fp]; omega)) (Dc AE rfl rfl rfl rfl) ?_
 rintro _ w ⟨rfl, hT2, hE⟩
 replace hX := hX.offS hB hE
 replace hKs := hKs.offS hB hE
 replace hp := Ky hp rfl hne1 hE
 replace hv := Ky hv rfl hne0 hE
 replace hF := hF.wrote2 hB hE (by intro z hz; obtain rfl := List.mem_singleton.1 hz; exact ⟨.inl rfl, by assumption⟩)
 replace hB := hB.wrote hT2 hE
 clear hE
 refine ⟨⟨hF, ⟨hp, hv, hKs⟩⟩, ?_⟩
 refine Jc (Mb (Ha (Da (Ca (Qi (((j + 1 : Nat) : Int)) rfl rfl) (Ca (Hb rfl) (Ya ?_))))))
 refine Ic ⟨_, ?_, j + 1, rfl, by_Om, (by rw [Hs xs ks j by_Om by_Om, Lz xs ks j by_Om by_Om]; simp only [← List.append_assoc]; rw [show ls.length + (Yd (xs.take j) ks).length = (ls ++ Yd (xs.take j) ks).length from List.length_append.symm]; exact hB), (hX), (hKs), (hp), (hv), Jr, hF.drop 1⟩
 omega
 refine Nc (Lc rfl ?_)
 refine Fe (Yc (Ef rfl) ?_)
 obtain rfl : j = xs.length := by omega
 rw [List.take_length] at hB
 exact ⟨rfl, hB.tb, hF.same⟩
end Go.Scarf
