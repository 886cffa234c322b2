/- A part of the proof. -/
import Derived.Test.YtehigfneiofjnaaGreatDoorTb
import Derived.Test.YtehigfneiofjnaaGreatDoorP3
import Derived.Test.YtehigfneiofjnaaGreatDoorZ1
import Derived.Test.YtehigfneiofjnaaGreatDoorW16
import Derived.Test.YtehigfneiofjnaaGreatDoorBd
set_option linter.all false
set_option maxHeartbeats 8000000
set_option maxRecDepth 10000
namespace Go.Scarf
open Go.RowKit Go.Proofs Go.Proofs.Tryz
section
variable {w w' w0 : World} {Ds E : List Nat} {bs_ : List (Nat × Obj)} {B pb : Nat} {ls ls' : List Str} {fs fs' : List Int}
theorem Tb.made2 {A A' : Option Addr} {c c' : Nat} {sl sf : List (Nat × Obj)} (hF : FR w0 (Wk2 w0 B pb) ((bs_ ++ [(pb, .cells #[.slice A ls.length c, .slice A' fs.length c'] 43)]) ++ (sl ++ (sf ++ []))) w) (hp : pb < B) (hB : B ≤ w0.heap.size)
    (hL : SlB 9 1 A ls.length c (Gs ls) sl) (hN : SlB 3 1 A' fs.length c' (Is fs) sf) : Tb w B pb ls fs := by
  refine Tb.made hF hp (Nat.le_trans hB hF.same.size) hL hN fun q hq => ?_
  have hm : q ∈ (bs_ ++ [(pb, Obj.cells #[.slice A ls.length c, .slice A' fs.length c'] 43)]) ++ (sl ++ (sf ++ [])) := by
    rcases List.mem_append.1 hq with h | h <;> simp [h]
  have hne : q.1 ≠ pb := by
    have := (List.pairwise_append.1 hF.desc).2.2 (pb, Obj.cells #[.slice A ls.length c, .slice A' fs.length c'] 43) Sa q (by rcases List.mem_append.1 hq with h | h <;> simp [h])
    exact this
  rcases (hF.own q hm).2 with h | h
  · omega
  · rcases Ej.1 h with h1 | ⟨-, h1, -⟩
    · exact absurd h1 hne
    · exact h1
def S0 (w0 : World) (Ds : List Nat) (b : Nat) : Prop := b < w0.heap.size ∧ b ∉ Ds
theorem Rep.offS {d : D} {cs : List Value} (h : Rep (S0 w0 Ds) w d cs) (hB : TW w0 Ds w B pb ls fs) (hs : Same (Wk2 w B pb) w w') : Rep (S0 w0 Ds) w' d cs := h.same hs fun b hb hn => hn.2 (hB.sub b hb hn.1)
theorem Rep.toOff {d : D} {cs : List Value} (h : Rep (S0 w0 Ds) w d cs) (hB : TW w0 Ds w B pb ls fs) : Rep (fun b => b ∉ Wk2 w B pb) w d cs := h.weaken fun b hb _ hm => hb.2 (hB.sub b hm hb.1)
theorem Rep.toS0 {d : D} {cs : List Value} (h : Rep (fun b => b ∉ Wk2 w0 B pb) w0 d cs) : Rep (S0 w0 (Wk2 w0 B pb)) w0 d cs := h.old.weaken fun b hb _ => ⟨hb.2, hb.1⟩
theorem Az {b : Nat} {o : Obj} (h : w.heap[b]? = some o) (hr : K1 o = false) (hb : b ≠ pb) (hs : Same (Wk2 w B pb) w w') : w'.heap[b]? = some o := by
  refine (hs.block b (Jb h) fun hm => ?_).trans h
  rcases Ej.1 hm with h1 | ⟨-, -, h1⟩
  · exact hb h1
  · rw [Tm h, hr] at h1; cases h1
theorem Pk {b : Nat} {o : Obj} (h : w.heap[b]? = some o) (hs : Same [] w w') : w'.heap[b]? = some o := (hs.block b (Jb h) Sa).trans h
theorem Gl.wrote2 (h : Gl w0) (hs : Same (Wk2 w0 B pb) w0 w) (hb : 7 ≤ B) (hp : 7 ≤ pb) : Gl w := h.same hs fun x hx => by
  rcases Ej.1 hx with rfl | ⟨-, h1, -⟩ <;> omega
end
theorem VC (x : Tree) (S : Nat → Prop) (w0 : World) (cs : List Value) (hR : Rep S w0 (Gc x) cs) (hG : Gl w0) (hsz : Ec x ≤ 1000000000) (hm : Ae x ≤ 1073741824) : Calls prog 29 #[.agg cs.toArray] w0 (Ce fun v w' => v = .string (bs (Fg x)) ∧ Same [] w0 w') := by
 have hl : cs.length = 4 := hR.length.trans (Ac x)
 have ho := hR.one_
 refine Ma func29 rfl ntmps29 Qb (Rc _) ?_
 have hF := FR.start w0 []
 refine Ha ?_
 refine Vf (v := .agg (List.toArray cs)) (cs := (List.toArray cs)) hF rfl rfl ?_
 clear hF; rintro b1 w hb1 hF -
 refine Ca (Ld rfl) (Yb (Fa (v := .agg (List.toArray cs)) (Rb (l := cs) isAgg25 sizeOf25 rfl hl (hF.cellsAll 0 rfl)) ?_))
 refine Va hF (QQ x _ _ cs (hF.rep hR) (hG.ext hF.same) hsz hm) (Ua GS rfl rfl) ?_
 clear hF; intro w hF
 refine Ca (Qg rfl) (Ca (M1 rfl rfl) (Ca (Re rfl rfl) (Ca (Ld rfl) (Ca (Kb rfl) (Yb (Ca (Pc rfl) (Ca (Ld rfl) (Da ?_))))))))
 refine Ud (v := .string (bs (Fg x))) rfl rfl ?_
 exact ⟨rfl, hF.same⟩
theorem NB (w0 : World) (B pb K : Nat) (caps : Array Value) (hen : Hb prog K) (ls ls' : List Str) (fs fs' : List Int) (lab : Str) (hT : Tb w0 B pb ls fs) (hkids : Calls prog K caps w0 (Ce fun v w' => v = .tuple #[] ∧ Tb w' B pb (ls') (fs') ∧ Same (Wk2 w0 B pb) w0 w')) (hl1 : ls'.length ≤ 512) (hl2 : fs'.length ≤ 512) : Calls prog 26 #[.pointer (some ⟨pb, 0, none⟩), .string (bs lab), .func (.func K) #[] caps] w0 (Ce fun v w' => v = .tuple #[] ∧ Tb w' B pb (ls' ++ [lab]) (fs' ++ [(ls.length : Int)]) ∧ Same (Wk2 w0 B pb) w0 w') := by
 refine Ma func26 rfl ntmps26 Qb (Bw _ _ _) ?_
 have hB := TW.start hT
 have hF := FR.start w0 (Wk2 w0 B pb)
 obtain ⟨P0, q0, P9, q9, hpb⟩ := hT.len
 refine Ha (Ca (Of rfl) (Ca (Vg rfl) (Ca (Fc Yf rfl) (Ca (Fc Ed rfl) (Fa (v := .slice P0 ls.length q0) (Vb isAgg22 rfl (Hc hpb 0)) (Ca (Ji underlying22 rfl) (Ca (Kb rfl) (Yb (Ca (EC) ?_)))))))))
 refine Zb hkids (XJ rfl hen Sa) ?_
 rintro _ w ⟨rfl, hT2, hE⟩
 replace hF := hF.wrote2 hB hE Sa
 replace hB := hB.wrote hT2 hE
 clear hE
 obtain ⟨P1, q1, sl, P2, q2, sf, hL, hN, hF2, -⟩ := hB.open_ hF Sa
 clear hF
 have hF : FR w0 (Wk2 w0 B pb) ([(pb, .cells #[.slice P1 ls'.length q1, .slice P2 fs'.length q2] 43)] ++ (sl ++ (sf ++ []))) w := hF2
 clear hF2
 refine Yb (Ca (Of rfl) (Ca (Vg rfl) (Ca (Fc Yf rfl) (Ca (Fc Ed rfl) (Uc (Mf isAgg22 rfl hF.F 0 rfl rfl) (Ca (Ji underlying22 rfl) (Fa (v := .bool true) (Sc (VN rfl rfl) by_Om) (Da (Qd rfl ?_)))))))))
 refine De [25] (.free 0 (.free 1 (.free 2 (.free 3 (.free 4 (.free 5 (.free 7 (.free 10 (.free 11 (.free 12 (.free 13 (.free 14 (.free 15 (.alt 6 (.alt 8 (.alt 9 (.act 16 (.act 17 (.free 18 (.free 19 (.free 20 (.act 21 (.act 22 (.act 23 (.free 24 (.act 25 .nil)))))))))) (.act 16 (.act 9 (.act 17 (.free 18 (.free 19 (.free 20 (.act 21 (.act 22 (.act 23 (.free 24 (.act 25 .nil)))))))))))) (.act 16 (.act 8 (.act 9 (.act 17 (.free 18 (.free 19 (.free 20 (.act 21 (.act 22 (.act 23 (.free 24 (.act 25 .nil))))))))))))) (.alt 8 (.alt 6 (.alt 9 (.act 16 (.act 17 (.free 18 (.free 19 (.free 20 (.act 21 (.act 22 (.act 23 (.free 24 (.act 25 .nil)))))))))) (.act 16 (.act 9 (.act 17 (.free 18 (.free 19 (.free 20 (.act 21 (.act 22 (.act 23 (.free 24 (.act 25 .nil)))))))))))) (.act 16 (.act 6 (.act 9 (.act 17 (.free 18 (.free 19 (.free 20 (.act 21 (.act 22 (.act 23 (.free 24 (.act 25 .nil))))))))))))) (.act 16 (.alt 6 (.act 8 (.act 9 (.act 17 (.free 18 (.free 19 (.free 20 (.act 21 (.act 22 (.act 23 (.free 24 (.act 25 .nil))))))))))) (.act 8 (.act 6 (.act 9 (.act 17 (.free 18 (.free 19 (.free 20 (.act 21 (.act 22 (.act 23 (.free 24 (.act 25 .nil))))))))))))))))))))))))))))) hF ?_
 clear hF; rintro w hF -
 refine ⟨fun wq => FR w0 (Wk2 w0 B pb) [] wq ∧ wq.cell? ⟨pb, 1, none⟩ = some (.slice P2 fs'.length q2), ⟨hF.sub (.cons _ (List.nil_sublist _)), hF.cell 0 rfl rfl⟩, ?_⟩
 refine Eb rfl (Of rfl) (Eb rfl (Of rfl) (Eb rfl (Of rfl) (Eb rfl (Vg rfl) (Eb rfl (Fc Yf rfl) (Eb rfl (Fc Ed rfl) (Eb rfl (Pc rfl) (Eb rfl (Of rfl) (Eb rfl (Vg rfl) (Eb rfl (Fc Yf rfl) (Eb rfl (Fc Kd rfl) (Ib rfl (v := .slice P2 fs'.length q2) (fun w hC => Vb isAgg28 rfl hC.2) (Eb rfl (Za rfl) ?_))))))))))))
 refine Ue ?_ ?_
 refine Zh rfl (v := .slice P1 ls'.length q1) (Vb isAgg22 rfl (hF.cell 0 rfl rfl)) (⟨hF.sub (.cons _ (List.nil_sublist _)), hF.cell 0 rfl rfl⟩) ?_
 refine Ue ?_ ?_
 refine Xb 1 rfl hF (Ka (cs := #[.string (bs lab)]) underlying22 sizeOf9 zeroValue9 Oa Oa Fb) ?_
 clear hF; rintro b1 w hb1 hF -
 refine ⟨⟨hF.sub (.cons _ (.cons _ (List.nil_sublist _))), hF.cell 1 rfl rfl⟩, ?_⟩
 refine Ue ?_ ?_
 refine Bf [(b1, .cells #[.string (bs lab)] 9), (pb, .cells #[.slice P1 ls'.length q1, .slice P2 fs'.length q2] 43)] (sf ++ []) (news := [.string (bs lab)]) (len' := (ls' ++ [lab]).length) (ys := Gs (ls' ++ [lab])) rfl Dn hF hL rfl rfl (rfl) (fun _ => ⟨_, rfl, Qc (hF.cellsAll 0 rfl)⟩) (by simp [Value.oneCell']) (by simp only [maxLen]; omega) Sa (by simp [Gs]) by_Om ?_
 clear hF; intro A0 c0 L_0 w hS0_L hF hE hnew
 clear hE hnew
 refine ⟨⟨hF.sub (.cons _ (.cons _ (List.nil_sublist _))), hF.cell 1 rfl rfl⟩, ?_⟩
 refine Xb 1 rfl hF (Ka (cs := #[.int .i64 ((ls.length : Nat))]) underlying28 sizeOf3 zeroValue3 Oa Oa Fb) ?_
 clear hF; rintro b2 w hb2 hF -
 refine ⟨⟨hF.sub (.cons _ (.cons _ (.cons _ (List.nil_sublist _)))), hF.cell 2 rfl rfl⟩, ?_⟩
 refine Bf ([(b2, .cells #[.int .i64 ((ls.length : Nat))] 3), (b1, .cells #[.string (bs lab)] 9), (pb, .cells #[.slice P1 ls'.length q1, .slice P2 fs'.length q2] 43)] ++ L_0) [] (news := [.int .i64 ((ls.length : Nat))]) (len' := (fs' ++ [(ls.length : Int)]).length) (ys := Is (fs' ++ [(ls.length : Int)])) rfl Ck hF hN rfl rfl (rfl) (fun _ => ⟨_, rfl, Qc (hF.cellsAll 0 rfl)⟩) (by simp [Value.oneCell']) (by simp only [maxLen]; omega) Sa (by simp [Is]) by_Om ?_
 clear hF; intro A1 c1 N_1 w hS1_N hF hE hnew
 clear hE hnew
 refine ⟨⟨hF.sub (.cons _ (.cons _ (.cons _ (List.nil_sublist _)))), hF.cell 2 rfl rfl⟩, ?_⟩
 refine Eb rfl (Vg rfl) (Eb rfl (Fc Yf rfl) (Eb rfl (Fc Ed rfl) ?_))
 refine Xl rfl 2 (l := [.slice (A0) ((ls' ++ [lab]).length) (c0)]) (cs' := #[.slice (A0) ((ls' ++ [lab]).length) (c0), .slice P2 fs'.length q2]) hF sizeOf22 rfl (v := .slice (A0) ((ls' ++ [lab]).length) (c0)) rfl rfl Se rfl Qb rfl ?_
 clear hF; rintro w hF -
 replace hF : FR w0 (Wk2 w0 B pb) ([(b2, .cells #[.int .i64 ((ls.length : Nat))] 3), (b1, .cells #[.string (bs lab)] 9), (pb, .cells #[.slice (A0) ((ls' ++ [lab]).length) (c0), .slice P2 fs'.length q2] 43)] ++ (L_0 ++ (N_1 ++ []))) w := hF
 refine ⟨⟨hF.sub (.cons _ (.cons _ (.cons _ (List.nil_sublist _)))), hF.cell 2 rfl rfl⟩, ?_⟩
 refine Zh rfl (v := .pointer (some ⟨pb, 0, none⟩)) (Vi rfl) (⟨hF.sub (.cons _ (.cons _ (.cons _ (List.nil_sublist _)))), hF.cell 2 rfl rfl⟩) ?_
 refine Zh rfl (v := .pointer (some ⟨pb, 0, none⟩)) (Xg Yf rfl) (⟨hF.sub (.cons _ (.cons _ (.cons _ (List.nil_sublist _)))), hF.cell 2 rfl rfl⟩) ?_
 refine Eb rfl (Fc Kd rfl) ?_
 refine Fh rfl 2 (l := [.slice (A1) ((fs' ++ [(ls.length : Int)]).length) (c1)]) (cs' := #[.slice (A0) ((ls' ++ [lab]).length) (c0), .slice (A1) ((fs' ++ [(ls.length : Int)]).length) (c1)]) hF sizeOf28 rfl (v := .slice (A1) ((fs' ++ [(ls.length : Int)]).length) (c1)) rfl rfl Se rfl Qb rfl ?_
 clear hF; rintro w hF -
 replace hF : FR w0 (Wk2 w0 B pb) ([(b2, .cells #[.int .i64 ((ls.length : Nat))] 3), (b1, .cells #[.string (bs lab)] 9), (pb, .cells #[.slice (A0) ((ls' ++ [lab]).length) (c0), .slice (A1) ((fs' ++ [(ls.length : Int)]).length) (c1)] 43)] ++ (L_0 ++ (N_1 ++ []))) w := hF
 refine Ic ?_
 refine Ef (Rd (Ah rfl) ?_)
 exact ⟨rfl, Tb.made2 (bs_ := [_, _]) (sl := L_0) (sf := N_1) hF hT.lt hT.le hS0_L hS1_N, hF.same⟩
 refine Xb 1 rfl hF (Ka (cs := #[.int .i64 ((ls.length : Nat))]) underlying28 sizeOf3 zeroValue3 Oa Oa Fb) ?_
 clear hF; rintro b3 w hb3 hF -
 refine ⟨⟨hF.sub (.cons _ (.cons _ (.cons _ (List.nil_sublist _)))), hF.cell 2 rfl rfl⟩, ?_⟩
 refine Bf [(b3, .cells #[.int .i64 ((ls.length : Nat))] 3), (b1, .cells #[.string (bs lab)] 9), (pb, .cells #[.slice P1 ls'.length q1, .slice P2 fs'.length q2] 43)] (sf ++ []) (news := [.string (bs lab)]) (len' := (ls' ++ [lab]).length) (ys := Gs (ls' ++ [lab])) rfl Dn hF hL rfl rfl (rfl) (fun _ => ⟨_, rfl, Qc (hF.cellsAll 1 rfl)⟩) (by simp [Value.oneCell']) (by simp only [maxLen]; omega) Sa (by simp [Gs]) by_Om ?_
 clear hF; intro A2 c2 L_2 w hS2_L hF hE hnew
 clear hE hnew
 refine ⟨⟨hF.sub (.cons _ (.cons _ (.cons _ (List.nil_sublist _)))), hF.cell 2 rfl rfl⟩, ?_⟩
 refine Bf ([(b3, .cells #[.int .i64 ((ls.length : Nat))] 3), (b1, .cells #[.string (bs lab)] 9), (pb, .cells #[.slice P1 ls'.length q1, .slice P2 fs'.length q2] 43)] ++ L_2) [] (news := [.int .i64 ((ls.length : Nat))]) (len' := (fs' ++ [(ls.length : Int)]).length) (ys := Is (fs' ++ [(ls.length : Int)])) rfl Ck hF hN rfl rfl (rfl) (fun _ => ⟨_, rfl, Qc (hF.cellsAll 0 rfl)⟩) (by simp [Value.oneCell']) (by simp only [maxLen]; omega) Sa (by simp [Is]) by_Om ?_
 clear hF; intro A3 c3 N_3 w hS3_N hF hE hnew
 clear hE hnew
 refine ⟨⟨hF.sub (.cons _ (.cons _ (.cons _ (List.nil_sublist _)))), hF.cell 2 rfl rfl⟩, ?_⟩
 refine Eb rfl (Vg rfl) (Eb rfl (Fc Yf rfl) (Eb rfl (Fc Ed rfl) ?_))
 refine Xl rfl 2 (l := [.slice (A2) ((ls' ++ [lab]).length) (c2)]) (cs' := #[.slice (A2) ((ls' ++ [lab]).length) (c2), .slice P2 fs'.length q2]) hF sizeOf22 rfl (v := .slice (A2) ((ls' ++ [lab]).length) (c2)) rfl rfl Se rfl Qb rfl ?_
 clear hF; rintro w hF -
 replace hF : FR w0 (Wk2 w0 B pb) ([(b3, .cells #[.int .i64 ((ls.length : Nat))] 3), (b1, .cells #[.string (bs lab)] 9), (pb, .cells #[.slice (A2) ((ls' ++ [lab]).length) (c2), .slice P2 fs'.length q2] 43)] ++ (L_2 ++ (N_3 ++ []))) w := hF
 refine ⟨⟨hF.sub (.cons _ (.cons _ (.cons _ (List.nil_sublist _)))), hF.cell 2 rfl rfl⟩, ?_⟩
 refine Zh rfl (v := .pointer (some ⟨pb, 0, none⟩)) (Vi rfl) (⟨hF.sub (.cons _ (.cons _ (.cons _ (List.nil_sublist _)))), hF.cell 2 rfl rfl⟩) ?_
 refine Zh rfl (v := .pointer (some ⟨pb, 0, none⟩)) (Xg Yf rfl) (⟨hF.sub (.cons _ (.cons _ (.cons _ (List.nil_sublist _)))), hF.cell 2 rfl rfl⟩) ?_
 refine Eb rfl (Fc Kd rfl) ?_
 refine Fh rfl 2 (l := [.slice (A3) ((fs' ++ [(ls.length : Int)]).length) (c3)]) (cs' := #[.slice (A2) ((ls' ++ [lab]).length) (c2), .slice (A3) ((fs' ++ [(ls.length : Int)]).length) (c3)]) hF sizeOf28 rfl (v := .slice (A3) ((fs' ++ [(ls.length : Int)]).length) (c3)) rfl rfl Se rfl Qb rfl ?_
 clear hF; rintro w hF -
 replace hF : FR w0 (Wk2 w0 B pb) ([(b3, .cells #[.int .i64 ((ls.length : Nat))] 3), (b1, .cells #[.string (bs lab)] 9), (pb, .cells #[.slice (A2) ((ls' ++ [lab]).length) (c2), .slice (A3) ((fs' ++ [(ls.length : Int)]).length) (c3)] 43)] ++ (L_2 ++ (N_3 ++ []))) w := hF
 refine Ic ?_
 refine Ef (Rd (Ah rfl) ?_)
 exact ⟨rfl, Tb.made2 (bs_ := [_, _]) (sl := L_2) (sf := N_3) hF hT.lt hT.le hS2_L hS3_N, hF.same⟩
 refine Xb 1 rfl hF (Ka (cs := #[.int .i64 ((ls.length : Nat))]) underlying28 sizeOf3 zeroValue3 Oa Oa Fb) ?_
 clear hF; rintro b4 w hb4 hF -
 refine ⟨⟨hF.sub (.cons _ (.cons _ (List.nil_sublist _))), hF.cell 1 rfl rfl⟩, ?_⟩
 refine Xb 1 rfl hF (Ka (cs := #[.string (bs lab)]) underlying22 sizeOf9 zeroValue9 Oa Oa Fb) ?_
 clear hF; rintro b5 w hb5 hF -
 refine ⟨⟨hF.sub (.cons _ (.cons _ (.cons _ (List.nil_sublist _)))), hF.cell 2 rfl rfl⟩, ?_⟩
 refine Bf [(b5, .cells #[.string (bs lab)] 9), (b4, .cells #[.int .i64 ((ls.length : Nat))] 3), (pb, .cells #[.slice P1 ls'.length q1, .slice P2 fs'.length q2] 43)] (sf ++ []) (news := [.string (bs lab)]) (len' := (ls' ++ [lab]).length) (ys := Gs (ls' ++ [lab])) rfl Dn hF hL rfl rfl (rfl) (fun _ => ⟨_, rfl, Qc (hF.cellsAll 0 rfl)⟩) (by simp [Value.oneCell']) (by simp only [maxLen]; omega) Sa (by simp [Gs]) by_Om ?_
 clear hF; intro A4 c4 L_4 w hS4_L hF hE hnew
 clear hE hnew
 refine ⟨⟨hF.sub (.cons _ (.cons _ (.cons _ (List.nil_sublist _)))), hF.cell 2 rfl rfl⟩, ?_⟩
 refine Bf ([(b5, .cells #[.string (bs lab)] 9), (b4, .cells #[.int .i64 ((ls.length : Nat))] 3), (pb, .cells #[.slice P1 ls'.length q1, .slice P2 fs'.length q2] 43)] ++ L_4) [] (news := [.int .i64 ((ls.length : Nat))]) (len' := (fs' ++ [(ls.length : Int)]).length) (ys := Is (fs' ++ [(ls.length : Int)])) rfl Ck hF hN rfl rfl (rfl) (fun _ => ⟨_, rfl, Qc (hF.cellsAll 1 rfl)⟩) (by simp [Value.oneCell']) (by simp only [maxLen]; omega) Sa (by simp [Is]) by_Om ?_
 clear hF; intro A5 c5 N_5 w hS5_N hF hE hnew
 clear hE hnew
 refine ⟨⟨hF.sub (.cons _ (.cons _ (.cons _ (List.nil_sublist _)))), hF.cell 2 rfl rfl⟩, ?_⟩
 refine Eb rfl (Vg rfl) (Eb rfl (Fc Yf rfl) (Eb rfl (Fc Ed rfl) ?_))
 refine Xl rfl 2 (l := [.slice (A4) ((ls' ++ [lab]).length) (c4)]) (cs' := #[.slice (A4) ((ls' ++ [lab]).length) (c4), .slice P2 fs'.length q2]) hF sizeOf22 rfl (v := .slice (A4) ((ls' ++ [lab]).length) (c4)) rfl rfl Se rfl Qb rfl ?_
 clear hF; rintro w hF -
 replace hF : FR w0 (Wk2 w0 B pb) ([(b5, .cells #[.string (bs lab)] 9), (b4, .cells #[.int .i64 ((ls.length : Nat))] 3), (pb, .cells #[.slice (A4) ((ls' ++ [lab]).length) (c4), .slice P2 fs'.length q2] 43)] ++ (L_4 ++ (N_5 ++ []))) w := hF
 refine ⟨⟨hF.sub (.cons _ (.cons _ (.cons _ (List.nil_sublist _)))), hF.cell 2 rfl rfl⟩, ?_⟩
 refine Zh rfl (v := .pointer (some ⟨pb, 0, none⟩)) (Vi rfl) (⟨hF.sub (.cons _ (.cons _ (.cons _ (List.nil_sublist _)))), hF.cell 2 rfl rfl⟩) ?_
 refine Zh rfl (v := .pointer (some ⟨pb, 0, none⟩)) (Xg Yf rfl) (⟨hF.sub (.cons _ (.cons _ (.cons _ (List.nil_sublist _)))), hF.cell 2 rfl rfl⟩) ?_
 refine Eb rfl (Fc Kd rfl) ?_
 refine Fh rfl 2 (l := [.slice (A5) ((fs' ++ [(ls.length : Int)]).length) (c5)]) (cs' := #[.slice (A4) ((ls' ++ [lab]).length) (c4), .slice (A5) ((fs' ++ [(ls.length : Int)]).length) (c5)]) hF sizeOf28 rfl (v := .slice (A5) ((fs' ++ [(ls.length : Int)]).length) (c5)) rfl rfl Se rfl Qb rfl ?_
 clear hF; rintro w hF -
 replace hF : FR w0 (Wk2 w0 B pb) ([(b5, .cells #[.string (bs lab)] 9), (b4, .cells #[.int .i64 ((ls.length : Nat))] 3), (pb, .cells #[.slice (A4) ((ls' ++ [lab]).length) (c4), .slice (A5) ((fs' ++ [(ls.length : Int)]).length) (c5)] 43)] ++ (L_4 ++ (N_5 ++ []))) w := hF
 refine Ic ?_
 refine Ef (Rd (Ah rfl) ?_)
 exact ⟨rfl, Tb.made2 (bs_ := [_, _]) (sl := L_4) (sf := N_5) hF hT.lt hT.le hS4_L hS5_N, hF.same⟩
 refine Ue ?_ ?_
 refine Xb 1 rfl hF (Ka (cs := #[.string (bs lab)]) underlying22 sizeOf9 zeroValue9 Oa Oa Fb) ?_
 clear hF; rintro b6 w hb6 hF -
 refine ⟨⟨hF.sub (.cons _ (.cons _ (List.nil_sublist _))), hF.cell 1 rfl rfl⟩, ?_⟩
 refine Ue ?_ ?_
 refine Zh rfl (v := .slice P1 ls'.length q1) (Vb isAgg22 rfl (hF.cell 1 rfl rfl)) (⟨hF.sub (.cons _ (.cons _ (List.nil_sublist _))), hF.cell 1 rfl rfl⟩) ?_
 refine Ue ?_ ?_
 refine Bf [(b6, .cells #[.string (bs lab)] 9), (pb, .cells #[.slice P1 ls'.length q1, .slice P2 fs'.length q2] 43)] (sf ++ []) (news := [.string (bs lab)]) (len' := (ls' ++ [lab]).length) (ys := Gs (ls' ++ [lab])) rfl Dn hF hL rfl rfl (rfl) (fun _ => ⟨_, rfl, Qc (hF.cellsAll 0 rfl)⟩) (by simp [Value.oneCell']) (by simp only [maxLen]; omega) Sa (by simp [Gs]) by_Om ?_
 clear hF; intro A6 c6 L_6 w hS6_L hF hE hnew
 clear hE hnew
 refine ⟨⟨hF.sub (.cons _ (.cons _ (List.nil_sublist _))), hF.cell 1 rfl rfl⟩, ?_⟩
 refine Xb 1 rfl hF (Ka (cs := #[.int .i64 ((ls.length : Nat))]) underlying28 sizeOf3 zeroValue3 Oa Oa Fb) ?_
 clear hF; rintro b7 w hb7 hF -
 refine ⟨⟨hF.sub (.cons _ (.cons _ (.cons _ (List.nil_sublist _)))), hF.cell 2 rfl rfl⟩, ?_⟩
 refine Bf ([(b7, .cells #[.int .i64 ((ls.length : Nat))] 3), (b6, .cells #[.string (bs lab)] 9), (pb, .cells #[.slice P1 ls'.length q1, .slice P2 fs'.length q2] 43)] ++ L_6) [] (news := [.int .i64 ((ls.length : Nat))]) (len' := (fs' ++ [(ls.length : Int)]).length) (ys := Is (fs' ++ [(ls.length : Int)])) rfl Ck hF hN rfl rfl (rfl) (fun _ => ⟨_, rfl, Qc (hF.cellsAll 0 rfl)⟩) (by simp [Value.oneCell']) (by simp only [maxLen]; omega) Sa (by simp [Is]) by_Om ?_
 clear hF; intro A7 c7 N_7 w hS7_N hF hE hnew
 clear hE hnew
 refine ⟨⟨hF.sub (.cons _ (.cons _ (.cons _ (List.nil_sublist _)))), hF.cell 2 rfl rfl⟩, ?_⟩
 refine Eb rfl (Vg rfl) (Eb rfl (Fc Yf rfl) (Eb rfl (Fc Ed rfl) ?_))
 refine Xl rfl 2 (l := [.slice (A6) ((ls' ++ [lab]).length) (c6)]) (cs' := #[.slice (A6) ((ls' ++ [lab]).length) (c6), .slice P2 fs'.length q2]) hF sizeOf22 rfl (v := .slice (A6) ((ls' ++ [lab]).length) (c6)) rfl rfl Se rfl Qb rfl ?_
 clear hF; rintro w hF -
 replace hF : FR w0 (Wk2 w0 B pb) ([(b7, .cells #[.int .i64 ((ls.length : Nat))] 3), (b6, .cells #[.string (bs lab)] 9), (pb, .cells #[.slice (A6) ((ls' ++ [lab]).length) (c6), .slice P2 fs'.length q2] 43)] ++ (L_6 ++ (N_7 ++ []))) w := hF
 refine ⟨⟨hF.sub (.cons _ (.cons _ (.cons _ (List.nil_sublist _)))), hF.cell 2 rfl rfl⟩, ?_⟩
 refine Zh rfl (v := .pointer (some ⟨pb, 0, none⟩)) (Vi rfl) (⟨hF.sub (.cons _ (.cons _ (.cons _ (List.nil_sublist _)))), hF.cell 2 rfl rfl⟩) ?_
 refine Zh rfl (v := .pointer (some ⟨pb, 0, none⟩)) (Xg Yf rfl) (⟨hF.sub (.cons _ (.cons _ (.cons _ (List.nil_sublist _)))), hF.cell 2 rfl rfl⟩) ?_
 refine Eb rfl (Fc Kd rfl) ?_
 refine Fh rfl 2 (l := [.slice (A7) ((fs' ++ [(ls.length : Int)]).length) (c7)]) (cs' := #[.slice (A6) ((ls' ++ [lab]).length) (c6), .slice (A7) ((fs' ++ [(ls.length : Int)]).length) (c7)]) hF sizeOf28 rfl (v := .slice (A7) ((fs' ++ [(ls.length : Int)]).length) (c7)) rfl rfl Se rfl Qb rfl ?_
 clear hF; rintro w hF -
 replace hF : FR w0 (Wk2 w0 B pb) ([(b7, .cells #[.int .i64 ((ls.length : Nat))] 3), (b6, .cells #[.string (bs lab)] 9), (pb, .cells #[.slice (A6) ((ls' ++ [lab]).length) (c6), .slice (A7) ((fs' ++ [(ls.length : Int)]).length) (c7)] 43)] ++ (L_6 ++ (N_7 ++ []))) w := hF
 refine Ic ?_
 refine Ef (Rd (Ah rfl) ?_)
 exact ⟨rfl, Tb.made2 (bs_ := [_, _]) (sl := L_6) (sf := N_7) hF hT.lt hT.le hS6_L hS7_N, hF.same⟩
 refine Xb 1 rfl hF (Ka (cs := #[.int .i64 ((ls.length : Nat))]) underlying28 sizeOf3 zeroValue3 Oa Oa Fb) ?_
 clear hF; rintro b8 w hb8 hF -
 refine ⟨⟨hF.sub (.cons _ (.cons _ (.cons _ (List.nil_sublist _)))), hF.cell 2 rfl rfl⟩, ?_⟩
 refine Bf [(b8, .cells #[.int .i64 ((ls.length : Nat))] 3), (b6, .cells #[.string (bs lab)] 9), (pb, .cells #[.slice P1 ls'.length q1, .slice P2 fs'.length q2] 43)] (sf ++ []) (news := [.string (bs lab)]) (len' := (ls' ++ [lab]).length) (ys := Gs (ls' ++ [lab])) rfl Dn hF hL rfl rfl (rfl) (fun _ => ⟨_, rfl, Qc (hF.cellsAll 1 rfl)⟩) (by simp [Value.oneCell']) (by simp only [maxLen]; omega) Sa (by simp [Gs]) by_Om ?_
 clear hF; intro A8 c8 L_8 w hS8_L hF hE hnew
 clear hE hnew
 refine ⟨⟨hF.sub (.cons _ (.cons _ (.cons _ (List.nil_sublist _)))), hF.cell 2 rfl rfl⟩, ?_⟩
 refine Bf ([(b8, .cells #[.int .i64 ((ls.length : Nat))] 3), (b6, .cells #[.string (bs lab)] 9), (pb, .cells #[.slice P1 ls'.length q1, .slice P2 fs'.length q2] 43)] ++ L_8) [] (news := [.int .i64 ((ls.length : Nat))]) (len' := (fs' ++ [(ls.length : Int)]).length) (ys := Is (fs' ++ [(ls.length : Int)])) rfl Ck hF hN rfl rfl (rfl) (fun _ => ⟨_, rfl, Qc (hF.cellsAll 0 rfl)⟩) (by simp [Value.oneCell']) (by simp only [maxLen]; omega) Sa (by simp [Is]) by_Om ?_
 clear hF; intro A9 c9 N_9 w hS9_N hF hE hnew
 clear hE hnew
 refine ⟨⟨hF.sub (.cons _ (.cons _ (.cons _ (List.nil_sublist _)))), hF.cell 2 rfl rfl⟩, ?_⟩
 refine Eb rfl (Vg rfl) (Eb rfl (Fc Yf rfl) (Eb rfl (Fc Ed rfl) ?_))
 refine Xl rfl 2 (l := [.slice (A8) ((ls' ++ [lab]).length) (c8)]) (cs' := #[.slice (A8) ((ls' ++ [lab]).length) (c8), .slice P2 fs'.length q2]) hF sizeOf22 rfl (v := .slice (A8) ((ls' ++ [lab]).length) (c8)) rfl rfl Se rfl Qb rfl ?_
 clear hF; rintro w hF -
 replace hF : FR w0 (Wk2 w0 B pb) ([(b8, .cells #[.int .i64 ((ls.length : Nat))] 3), (b6, .cells #[.string (bs lab)] 9), (pb, .cells #[.slice (A8) ((ls' ++ [lab]).length) (c8), .slice P2 fs'.length q2] 43)] ++ (L_8 ++ (N_9 ++ []))) w := hF
 refine ⟨⟨hF.sub (.cons _ (.cons _ (.cons _ (List.nil_sublist _)))), hF.cell 2 rfl rfl⟩, ?_⟩
 refine Zh rfl (v := .pointer (some ⟨pb, 0, none⟩)) (Vi rfl) (⟨hF.sub (.cons _ (.cons _ (.cons _ (List.nil_sublist _)))), hF.cell 2 rfl rfl⟩) ?_
 refine Zh rfl (v := .pointer (some ⟨pb, 0, none⟩)) (Xg Yf rfl) (⟨hF.sub (.cons _ (.cons _ (.cons _ (List.nil_sublist _)))), hF.cell 2 rfl rfl⟩) ?_
 refine Eb rfl (Fc Kd rfl) ?_
 refine Fh rfl 2 (l := [.slice (A9) ((fs' ++ [(ls.length : Int)]).length) (c9)]) (cs' := #[.slice (A8) ((ls' ++ [lab]).length) (c8), .slice (A9) ((fs' ++ [(ls.length : Int)]).length) (c9)]) hF sizeOf28 rfl (v := .slice (A9) ((fs' ++ [(ls.length : Int)]).length) (c9)) rfl rfl Se rfl Qb rfl ?_
 clear hF; rintro w hF -
 replace hF : FR w0 (Wk2 w0 B pb) ([(b8, .cells #[.int .i64 ((ls.length : Nat))] 3), (b6, .cells #[.string (bs lab)] 9), (pb, .cells #[.slice (A8) ((ls' ++ [lab]).length) (c8), .slice (A9) ((fs' ++ [(ls.length : Int)]).length) (c9)] 43)] ++ (L_8 ++ (N_9 ++ []))) w := hF
 refine Ic ?_
 refine Ef (Rd (Ah rfl) ?_)
 exact ⟨rfl, Tb.made2 (bs_ := [_, _]) (sl := L_8) (sf := N_9) hF hT.lt hT.le hS8_L hS9_N, hF.same⟩
 refine Xb 1 rfl hF (Ka (cs := #[.int .i64 ((ls.length : Nat))]) underlying28 sizeOf3 zeroValue3 Oa Oa Fb) ?_
 clear hF; rintro b9 w hb9 hF -
 refine ⟨⟨hF.sub (.cons _ (.cons _ (.cons _ (List.nil_sublist _)))), hF.cell 2 rfl rfl⟩, ?_⟩
 refine Zh rfl (v := .slice P1 ls'.length q1) (Vb isAgg22 rfl (hF.cell 2 rfl rfl)) (⟨hF.sub (.cons _ (.cons _ (.cons _ (List.nil_sublist _)))), hF.cell 2 rfl rfl⟩) ?_
 refine Bf [(b9, .cells #[.int .i64 ((ls.length : Nat))] 3), (b6, .cells #[.string (bs lab)] 9), (pb, .cells #[.slice P1 ls'.length q1, .slice P2 fs'.length q2] 43)] (sf ++ []) (news := [.string (bs lab)]) (len' := (ls' ++ [lab]).length) (ys := Gs (ls' ++ [lab])) rfl Dn hF hL rfl rfl (rfl) (fun _ => ⟨_, rfl, Qc (hF.cellsAll 1 rfl)⟩) (by simp [Value.oneCell']) (by simp only [maxLen]; omega) Sa (by simp [Gs]) by_Om ?_
 clear hF; intro A10 c10 L_10 w hS10_L hF hE hnew
 clear hE hnew
 refine ⟨⟨hF.sub (.cons _ (.cons _ (.cons _ (List.nil_sublist _)))), hF.cell 2 rfl rfl⟩, ?_⟩
 refine Bf ([(b9, .cells #[.int .i64 ((ls.length : Nat))] 3), (b6, .cells #[.string (bs lab)] 9), (pb, .cells #[.slice P1 ls'.length q1, .slice P2 fs'.length q2] 43)] ++ L_10) [] (news := [.int .i64 ((ls.length : Nat))]) (len' := (fs' ++ [(ls.length : Int)]).length) (ys := Is (fs' ++ [(ls.length : Int)])) rfl Ck hF hN rfl rfl (rfl) (fun _ => ⟨_, rfl, Qc (hF.cellsAll 0 rfl)⟩) (by simp [Value.oneCell']) (by simp only [maxLen]; omega) Sa (by simp [Is]) by_Om ?_
 clear hF; intro A11 c11 N_11 w hS11_N hF hE hnew
 clear hE hnew
 refine ⟨⟨hF.sub (.cons _ (.cons _ (.cons _ (List.nil_sublist _)))), hF.cell 2 rfl rfl⟩, ?_⟩
 refine Eb rfl (Vg rfl) (Eb rfl (Fc Yf rfl) (Eb rfl (Fc Ed rfl) ?_))
 refine Xl rfl 2 (l := [.slice (A10) ((ls' ++ [lab]).length) (c10)]) (cs' := #[.slice (A10) ((ls' ++ [lab]).length) (c10), .slice P2 fs'.length q2]) hF sizeOf22 rfl (v := .slice (A10) ((ls' ++ [lab]).length) (c10)) rfl rfl Se rfl Qb rfl ?_
 clear hF; rintro w hF -
 replace hF : FR w0 (Wk2 w0 B pb) ([(b9, .cells #[.int .i64 ((ls.length : Nat))] 3), (b6, .cells #[.string (bs lab)] 9), (pb, .cells #[.slice (A10) ((ls' ++ [lab]).length) (c10), .slice P2 fs'.length q2] 43)] ++ (L_10 ++ (N_11 ++ []))) w := hF
 refine ⟨⟨hF.sub (.cons _ (.cons _ (.cons _ (List.nil_sublist _)))), hF.cell 2 rfl rfl⟩, ?_⟩
 refine Zh rfl (v := .pointer (some ⟨pb, 0, none⟩)) (Vi rfl) (⟨hF.sub (.cons _ (.cons _ (.cons _ (List.nil_sublist _)))), hF.cell 2 rfl rfl⟩) ?_
 refine Zh rfl (v := .pointer (some ⟨pb, 0, none⟩)) (Xg Yf rfl) (⟨hF.sub (.cons _ (.cons _ (.cons _ (List.nil_sublist _)))), hF.cell 2 rfl rfl⟩) ?_
 refine Eb rfl (Fc Kd rfl) ?_
 refine Fh rfl 2 (l := [.slice (A11) ((fs' ++ [(ls.length : Int)]).length) (c11)]) (cs' := #[.slice (A10) ((ls' ++ [lab]).length) (c10), .slice (A11) ((fs' ++ [(ls.length : Int)]).length) (c11)]) hF sizeOf28 rfl (v := .slice (A11) ((fs' ++ [(ls.length : Int)]).length) (c11)) rfl rfl Se rfl Qb rfl ?_
 clear hF; rintro w hF -
 replace hF : FR w0 (Wk2 w0 B pb) ([(b9, .cells #[.int .i64 ((ls.length : Nat))] 3), (b6, .cells #[.string (bs lab)] 9), (pb, .cells #[.slice (A10) ((ls' ++ [lab]).length) (c10), .slice (A11) ((fs' ++ [(ls.length : Int)]).length) (c11)] 43)] ++ (L_10 ++ (N_11 ++ []))) w := hF
 refine Ic ?_
 refine Ef (Rd (Ah rfl) ?_)
 exact ⟨rfl, Tb.made2 (bs_ := [_, _]) (sl := L_10) (sf := N_11) hF hT.lt hT.le hS10_L hS11_N, hF.same⟩
 refine Xb 1 rfl hF (Ka (cs := #[.int .i64 ((ls.length : Nat))]) underlying28 sizeOf3 zeroValue3 Oa Oa Fb) ?_
 clear hF; rintro b10 w hb10 hF -
 refine ⟨⟨hF.sub (.cons _ (.cons _ (List.nil_sublist _))), hF.cell 1 rfl rfl⟩, ?_⟩
 refine Ue ?_ ?_
 refine Zh rfl (v := .slice P1 ls'.length q1) (Vb isAgg22 rfl (hF.cell 1 rfl rfl)) (⟨hF.sub (.cons _ (.cons _ (List.nil_sublist _))), hF.cell 1 rfl rfl⟩) ?_
 refine Xb 1 rfl hF (Ka (cs := #[.string (bs lab)]) underlying22 sizeOf9 zeroValue9 Oa Oa Fb) ?_
 clear hF; rintro b11 w hb11 hF -
 refine ⟨⟨hF.sub (.cons _ (.cons _ (.cons _ (List.nil_sublist _)))), hF.cell 2 rfl rfl⟩, ?_⟩
 refine Bf [(b11, .cells #[.string (bs lab)] 9), (b10, .cells #[.int .i64 ((ls.length : Nat))] 3), (pb, .cells #[.slice P1 ls'.length q1, .slice P2 fs'.length q2] 43)] (sf ++ []) (news := [.string (bs lab)]) (len' := (ls' ++ [lab]).length) (ys := Gs (ls' ++ [lab])) rfl Dn hF hL rfl rfl (rfl) (fun _ => ⟨_, rfl, Qc (hF.cellsAll 0 rfl)⟩) (by simp [Value.oneCell']) (by simp only [maxLen]; omega) Sa (by simp [Gs]) by_Om ?_
 clear hF; intro A12 c12 L_12 w hS12_L hF hE hnew
 clear hE hnew
 refine ⟨⟨hF.sub (.cons _ (.cons _ (.cons _ (List.nil_sublist _)))), hF.cell 2 rfl rfl⟩, ?_⟩
 refine Bf ([(b11, .cells #[.string (bs lab)] 9), (b10, .cells #[.int .i64 ((ls.length : Nat))] 3), (pb, .cells #[.slice P1 ls'.length q1, .slice P2 fs'.length q2] 43)] ++ L_12) [] (news := [.int .i64 ((ls.length : Nat))]) (len' := (fs' ++ [(ls.length : Int)]).length) (ys := Is (fs' ++ [(ls.length : Int)])) rfl Ck hF hN rfl rfl (rfl) (fun _ => ⟨_, rfl, Qc (hF.cellsAll 1 rfl)⟩) (by simp [Value.oneCell']) (by simp only [maxLen]; omega) Sa (by simp [Is]) by_Om ?_
 clear hF; intro A13 c13 N_13 w hS13_N hF hE hnew
 clear hE hnew
 refine ⟨⟨hF.sub (.cons _ (.cons _ (.cons _ (List.nil_sublist _)))), hF.cell 2 rfl rfl⟩, ?_⟩
 refine Eb rfl (Vg rfl) (Eb rfl (Fc Yf rfl) (Eb rfl (Fc Ed rfl) ?_))
 refine Xl rfl 2 (l := [.slice (A12) ((ls' ++ [lab]).length) (c12)]) (cs' := #[.slice (A12) ((ls' ++ [lab]).length) (c12), .slice P2 fs'.length q2]) hF sizeOf22 rfl (v := .slice (A12) ((ls' ++ [lab]).length) (c12)) rfl rfl Se rfl Qb rfl ?_
 clear hF; rintro w hF -
 replace hF : FR w0 (Wk2 w0 B pb) ([(b11, .cells #[.string (bs lab)] 9), (b10, .cells #[.int .i64 ((ls.length : Nat))] 3), (pb, .cells #[.slice (A12) ((ls' ++ [lab]).length) (c12), .slice P2 fs'.length q2] 43)] ++ (L_12 ++ (N_13 ++ []))) w := hF
 refine ⟨⟨hF.sub (.cons _ (.cons _ (.cons _ (List.nil_sublist _)))), hF.cell 2 rfl rfl⟩, ?_⟩
 refine Zh rfl (v := .pointer (some ⟨pb, 0, none⟩)) (Vi rfl) (⟨hF.sub (.cons _ (.cons _ (.cons _ (List.nil_sublist _)))), hF.cell 2 rfl rfl⟩) ?_
 refine Zh rfl (v := .pointer (some ⟨pb, 0, none⟩)) (Xg Yf rfl) (⟨hF.sub (.cons _ (.cons _ (.cons _ (List.nil_sublist _)))), hF.cell 2 rfl rfl⟩) ?_
 refine Eb rfl (Fc Kd rfl) ?_
 refine Fh rfl 2 (l := [.slice (A13) ((fs' ++ [(ls.length : Int)]).length) (c13)]) (cs' := #[.slice (A12) ((ls' ++ [lab]).length) (c12), .slice (A13) ((fs' ++ [(ls.length : Int)]).length) (c13)]) hF sizeOf28 rfl (v := .slice (A13) ((fs' ++ [(ls.length : Int)]).length) (c13)) rfl rfl Se rfl Qb rfl ?_
 clear hF; rintro w hF -
 replace hF : FR w0 (Wk2 w0 B pb) ([(b11, .cells #[.string (bs lab)] 9), (b10, .cells #[.int .i64 ((ls.length : Nat))] 3), (pb, .cells #[.slice (A12) ((ls' ++ [lab]).length) (c12), .slice (A13) ((fs' ++ [(ls.length : Int)]).length) (c13)] 43)] ++ (L_12 ++ (N_13 ++ []))) w := hF
 refine Ic ?_
 refine Ef (Rd (Ah rfl) ?_)
 exact ⟨rfl, Tb.made2 (bs_ := [_, _]) (sl := L_12) (sf := N_13) hF hT.lt hT.le hS12_L hS13_N, hF.same⟩
 refine Xb 1 rfl hF (Ka (cs := #[.string (bs lab)]) underlying22 sizeOf9 zeroValue9 Oa Oa Fb) ?_
 clear hF; rintro b12 w hb12 hF -
 refine ⟨⟨hF.sub (.cons _ (.cons _ (.cons _ (List.nil_sublist _)))), hF.cell 2 rfl rfl⟩, ?_⟩
 refine Zh rfl (v := .slice P1 ls'.length q1) (Vb isAgg22 rfl (hF.cell 2 rfl rfl)) (⟨hF.sub (.cons _ (.cons _ (.cons _ (List.nil_sublist _)))), hF.cell 2 rfl rfl⟩) ?_
 refine Bf [(b12, .cells #[.string (bs lab)] 9), (b10, .cells #[.int .i64 ((ls.length : Nat))] 3), (pb, .cells #[.slice P1 ls'.length q1, .slice P2 fs'.length q2] 43)] (sf ++ []) (news := [.string (bs lab)]) (len' := (ls' ++ [lab]).length) (ys := Gs (ls' ++ [lab])) rfl Dn hF hL rfl rfl (rfl) (fun _ => ⟨_, rfl, Qc (hF.cellsAll 0 rfl)⟩) (by simp [Value.oneCell']) (by simp only [maxLen]; omega) Sa (by simp [Gs]) by_Om ?_
 clear hF; intro A14 c14 L_14 w hS14_L hF hE hnew
 clear hE hnew
 refine ⟨⟨hF.sub (.cons _ (.cons _ (.cons _ (List.nil_sublist _)))), hF.cell 2 rfl rfl⟩, ?_⟩
 refine Bf ([(b12, .cells #[.string (bs lab)] 9), (b10, .cells #[.int .i64 ((ls.length : Nat))] 3), (pb, .cells #[.slice P1 ls'.length q1, .slice P2 fs'.length q2] 43)] ++ L_14) [] (news := [.int .i64 ((ls.length : Nat))]) (len' := (fs' ++ [(ls.length : Int)]).length) (ys := Is (fs' ++ [(ls.length : Int)])) rfl Ck hF hN rfl rfl (rfl) (fun _ => ⟨_, rfl, Qc (hF.cellsAll 1 rfl)⟩) (by simp [Value.oneCell']) (by simp only [maxLen]; omega) Sa (by simp [Is]) by_Om ?_
 clear hF; intro A15 c15 N_15 w hS15_N hF hE hnew
 clear hE hnew
 refine ⟨⟨hF.sub (.cons _ (.cons _ (.cons _ (List.nil_sublist _)))), hF.cell 2 rfl rfl⟩, ?_⟩
 refine Eb rfl (Vg rfl) (Eb rfl (Fc Yf rfl) (Eb rfl (Fc Ed rfl) ?_))
 refine Xl rfl 2 (l := [.slice (A14) ((ls' ++ [lab]).length) (c14)]) (cs' := #[.slice (A14) ((ls' ++ [lab]).length) (c14), .slice P2 fs'.length q2]) hF sizeOf22 rfl (v := .slice (A14) ((ls' ++ [lab]).length) (c14)) rfl rfl Se rfl Qb rfl ?_
 clear hF; rintro w hF -
 replace hF : FR w0 (Wk2 w0 B pb) ([(b12, .cells #[.string (bs lab)] 9), (b10, .cells #[.int .i64 ((ls.length : Nat))] 3), (pb, .cells #[.slice (A14) ((ls' ++ [lab]).length) (c14), .slice P2 fs'.length q2] 43)] ++ (L_14 ++ (N_15 ++ []))) w := hF
 refine ⟨⟨hF.sub (.cons _ (.cons _ (.cons _ (List.nil_sublist _)))), hF.cell 2 rfl rfl⟩, ?_⟩
 refine Zh rfl (v := .pointer (some ⟨pb, 0, none⟩)) (Vi rfl) (⟨hF.sub (.cons _ (.cons _ (.cons _ (List.nil_sublist _)))), hF.cell 2 rfl rfl⟩) ?_
 refine Zh rfl (v := .pointer (some ⟨pb, 0, none⟩)) (Xg Yf rfl) (⟨hF.sub (.cons _ (.cons _ (.cons _ (List.nil_sublist _)))), hF.cell 2 rfl rfl⟩) ?_
 refine Eb rfl (Fc Kd rfl) ?_
 refine Fh rfl 2 (l := [.slice (A15) ((fs' ++ [(ls.length : Int)]).length) (c15)]) (cs' := #[.slice (A14) ((ls' ++ [lab]).length) (c14), .slice (A15) ((fs' ++ [(ls.length : Int)]).length) (c15)]) hF sizeOf28 rfl (v := .slice (A15) ((fs' ++ [(ls.length : Int)]).length) (c15)) rfl rfl Se rfl Qb rfl ?_
 clear hF; rintro w hF -
 replace hF : FR w0 (Wk2 w0 B pb) ([(b12, .cells #[.string (bs lab)] 9), (b10, .cells #[.int .i64 ((ls.length : Nat))] 3), (pb, .cells #[.slice (A14) ((ls' ++ [lab]).length) (c14), .slice (A15) ((fs' ++ [(ls.length : Int)]).length) (c15)] 43)] ++ (L_14 ++ (N_15 ++ []))) w := hF
 refine Ic ?_
 refine Ef (Rd (Ah rfl) ?_)
 exact ⟨rfl, Tb.made2 (bs_ := [_, _]) (sl := L_14) (sf := N_15) hF hT.lt hT.le hS14_L hS15_N, hF.same⟩
end Go.Scarf
namespace Go.Scarf
open Go.RowKit Go.Proofs Go.Proofs.Tryz
def JD (x : Tree) : Prop := ∀ (w0 : World) (B pb : Nat) (ls : List Str) (fs : List Int) (cs : List Value), Tb w0 B pb ls fs → Rep (fun b => b ∉ Wk2 w0 B pb) w0 (Gc x) cs → Gl w0 → 7 ≤ pb → ls.length = fs.length → Yd nodeB x = true → Ec x ≤ 1000000000 → Ae x ≤ 1073741824 → ls.length + (Ge x).length ≤ 512 →
  Calls prog 15 #[.pointer (some ⟨pb, 0, none⟩), .agg cs.toArray] w0 (Ce fun v w' => v = .tuple #[] ∧ Tb w' B pb (ls ++ Ge x) (fs ++ Jf x ls.length) ∧ Same (Wk2 w0 B pb) w0 w')
theorem Mz {w : World} {b : Nat} {l : List Value} {T : TypeId} (h : w.heap[b]? = some (.cells l.toArray T)) : ∀ j (hj : j < l.length), w.cell? ((⟨b, 0, none⟩ : Addr).add j) = some l[j] := fun j hj => by
  have e : (⟨b, 0, none⟩ : Addr).add j = ⟨b, j, none⟩ := by unfold Addr.add; split <;> simp_all
  rw [e, Hc h j]
  simp [hj]
theorem Dv (xs : List Tree) (b : Nat) : (Gj xs b).length = (Gg xs).length := Kw xs (fun x _ b => Gf x b) b
theorem Fq (xs : List Tree) (ks : List Str) (b : Nat) : (Si xs ks b).length = (Df xs ks).length := Pw xs ks (fun x _ b => Gf x b) b
theorem Kn : ∀ (xs : List Tree) (j : Nat) (h : j < xs.length), Gg (xs.take (j + 1)) = Gg (xs.take j) ++ Ge xs[j]
  | x :: xs, 0, _ => by simp [Gg]
  | x :: xs, j + 1, h => by
    rw [List.take_succ_cons, List.take_succ_cons, Gg, Gg, Kn xs j (by simpa using h), List.append_assoc]
    rfl
theorem Tt : ∀ (xs : List Tree) (j : Nat) (h : j < xs.length) (b : Nat), Gj (xs.take (j + 1)) b = Gj (xs.take j) b ++ Jf xs[j] (b + (Gg (xs.take j)).length)
  | x :: xs, 0, _, b => by simp [Gj, Gg]
  | x :: xs, j + 1, h, b => by
    rw [List.take_succ_cons, List.take_succ_cons, Gj, Gj, Gg, Tt xs j (by simpa using h), List.append_assoc, List.length_append, Nat.add_assoc]
    rfl
theorem Oo (xs : List Tree) (j : Nat) : (Gg (xs.take j)).length ≤ (Gg xs).length := by
  induction xs generalizing j with
  | nil => simp
  | cons x xs ih =>
    cases j with
    | zero => simp [Gg]
    | succ j =>
      have := ih j
      rw [List.take_succ_cons, Gg, Gg, List.length_append, List.length_append]; omega
theorem In : ∀ (xs : List Tree) (ks : List Str) (j : Nat) (h : j < xs.length) (h2 : j < ks.length), Df (xs.take (j + 1)) ks = Df (xs.take j) ks ++ (Ge xs[j] ++ [Km ks[j]])
  | x :: xs, k :: ks, 0, _, _ => by simp [Df]
  | x :: xs, k :: ks, j + 1, h, h2 => by
    rw [List.take_succ_cons, List.take_succ_cons, Df, Df, List.tail_cons, In xs ks j (by simpa using h) (by simpa using h2)]
    simp
  | _ :: _, [], _, _, h2 => by simp at h2
theorem Mt : ∀ (xs : List Tree) (ks : List Str) (j : Nat) (h : j < xs.length) (h2 : j < ks.length) (b : Nat), Si (xs.take (j + 1)) ks b = Si (xs.take j) ks b ++ (Jf xs[j] (b + (Df (xs.take j) ks).length) ++ [((b + (Df (xs.take j) ks).length : Nat) : Int)])
  | x :: xs, k :: ks, 0, _, _, b => by simp [Si, Df]
  | x :: xs, k :: ks, j + 1, h, h2, b => by
    rw [List.take_succ_cons, List.take_succ_cons, Si, Si, Df, List.tail_cons, Mt xs ks j (by simpa using h) (by simpa using h2)]
    have e : b + (Ge x ++ Km ((k :: ks).headD []) :: Df (xs.take j) ks).length = b + (Ge x).length + 1 + (Df (xs.take j) ks).length := by simp; omega
    rw [e]
    simp
  | _ :: _, [], _, _, h2, _ => by simp at h2
theorem Mo (xs : List Tree) (ks : List Str) (j : Nat) : (Df (xs.take j) ks).length ≤ (Df xs ks).length := by
  induction xs generalizing j ks with
  | nil => simp
  | cons x xs ih =>
    cases j with
    | zero => simp [Df]
    | succ j =>
      have := ih ks.tail j
      rw [List.take_succ_cons, Df, Df, List.length_append, List.length_append, List.length_cons, List.length_cons]; omega
theorem S8 (k : Str) : ([107] : Str) ++ Fg (.node 4 k [] []) = Km k := rfl
theorem Pr (x : Tree) (hm : Ae x ≤ 1073741824) : (Fg x).length ≤ 140737488355328 := by
  unfold Fg
  split
  · rename_i h; exact F2 h hm false 0 0 by_Om by_Om
  · simp
theorem JM {S : Nat → Prop} {w : World} {s : Str} (h : s.length ≤ 9223372036854775807) : Rep S w (Gc (.node 4 s [] [])) [.int .i64 4, .string (bs s), .slice none 0 0, .slice none 0 0] :=
  Rep.tree_mk ⟨by omega, by omega⟩ h (Rep.nil_slice 0 by_Om none) (Rep.nil_slice 0 by_Om none)
theorem Bp (s : Str) : Ae (.node 4 s [] []) = s.length := by simp [Ae, Ok, Oj]
theorem YL (w0 : World) (B pb : Nat) (ls : List Str) (fs : List Int) (hT : Tb w0 B pb ls fs) : Calls prog 32 #[] w0 (Ce fun v w' => v = .tuple #[] ∧ Tb w' B pb (ls) (fs) ∧ Same (Wk2 w0 B pb) w0 w') := by
 refine Ma func32 rfl ntmps32 Qb (QH) ?_
 have hB := TW.start hT
 have hF := FR.start w0 (Wk2 w0 B pb)
 refine Ra ?_
 refine Ef (Rd (Ah rfl) ?_)
 exact ⟨rfl, hB.tb, hF.same⟩
theorem AO (x : Tree) (ih : JD x) (w0 : World) (B pb : Nat) (ls : List Str) (fs : List Int) (hT : Tb w0 B pb ls fs) (hG : Gl w0) (hpN : 7 ≤ pb) (hlf : ls.length = fs.length) (k0 k1 : Nat) (cs : List Value) (h0 : w0.heap[k0]? = some (.cells #[.pointer (some ⟨pb, 0, none⟩)] 52)) (h1 : w0.heap[k1]? = some (.cells cs.toArray 25)) (hR : Rep (fun b => b ∉ Wk2 w0 B pb) w0 (Gc x) cs) (hn : Yd nodeB x = true) (hsz : Ec x ≤ 1000000000) (hm : Ae x ≤ 1073741824) (hlen : ls.length + (Ge x).length ≤ 512) : Calls prog 31 #[.pointer (some ⟨k0, 0, none⟩), .pointer (some ⟨k1, 0, none⟩)] w0 (Ce fun v w' => v = .tuple #[] ∧ Tb w' B pb (ls ++ Ge x) (fs ++ Jf x ls.length) ∧ Same (Wk2 w0 B pb) w0 w') := by
 have hl : cs.length = 4 := hR.length.trans (Ac x)
 have ho := hR.one_
 refine Ma func31 rfl ntmps31 Qb (Wd _ _) ?_
 have hB := TW.start hT
 have hF := FR.start w0 (Wk2 w0 B pb)
 refine Ga (Fa (v := .pointer (some ⟨pb, 0, none⟩)) (Vb isAgg52 rfl (Hc h0 0)) (Fa (v := .agg (List.toArray cs)) (Rb (l := cs) isAgg25 sizeOf25 rfl hl (Mz h1)) ?_))
 refine Zb (ih w0 B pb ls fs cs hT hR hG hpN hlf hn hsz hm hlen) (Pa VF rfl rfl rfl) ?_
 rintro _ w ⟨rfl, hT2, hE⟩
 replace hF := hF.wrote2 hB hE Sa
 replace hB := hB.wrote hT2 hE
 clear hE
 refine Cb ?_
 refine Ef (Rd (Ah rfl) ?_)
 exact ⟨rfl, hB.tb, hF.same⟩
theorem VH (k : Int) (t : Str) (ks : List Str) (xs : List Tree) (A D : Option Addr) (c e : Nat) (w0 : World) (B pb : Nat) (ls : List Str) (fs : List Int) (hT : Tb w0 B pb ls fs) (hG : Gl w0) (hpN : 7 ≤ pb) (hlf : ls.length = fs.length) (ih : ∀ x ∈ xs, JD x) (hns : ∀ x ∈ xs, Yd nodeB x = true) (hsz : Zc xs ≤ 1000000000) (hm : Oj xs ≤ 1073741824) (k0 k1 : Nat) (h0 : w0.heap[k0]? = some (.cells #[.int .i64 k, .string (bs t), .slice A ks.length c, .slice D xs.length e] 25)) (hp : w0.heap[k1]? = some (.cells #[.pointer (some ⟨pb, 0, none⟩)] 52)) (hk1 : k1 ≠ pb) (hX0 : Rep (fun b => b ∉ Wk2 w0 B pb) w0 (.slice (Je xs)) [.slice D xs.length e]) (hlen : ls.length + (Gg xs).length ≤ 512) : Calls prog 27 #[.pointer (some ⟨k0, 0, none⟩), .pointer (some ⟨k1, 0, none⟩)] w0 (Ce fun v w' => v = .tuple #[] ∧ Tb w' B pb (ls ++ Gg xs) (fs ++ Gj xs ls.length) ∧ Same (Wk2 w0 B pb) w0 w') := by
 have hX := hX0.toS0
 have hXl := hX.slice_len
 have hxn := Bn xs
 refine Ma func27 rfl ntmps27 Qb (Wd _ _) ?_
 have hB := TW.start hT
 have hF := FR.start w0 (Wk2 w0 B pb)
 refine Ha (Ca (Fc Vc rfl) (Fa (v := .slice D xs.length e) (Vb isAgg23 rfl (Hc h0 3)) (Ca (Ji underlying23 rfl) (Ca (Za rfl) (Da (Db ?_))))))
 refine Xc (fun μ σ w => ∃ (j : Nat), μ = xs.length - j ∧ (j ≤ xs.length) ∧ (TW w0 (Wk2 w0 B pb) w B pb (ls ++ Gg (xs.take j)) (fs ++ Gj (xs.take j) ls.length)) ∧ (Rep (S0 w0 (Wk2 w0 B pb)) w (.slice (Je xs)) [.slice D xs.length e]) ∧ (w.heap[k1]? = some (.cells #[.pointer (some ⟨pb, 0, none⟩)] 52)) ∧ AllEq σ [(1, .pointer (some ⟨k1, 0, none⟩)), (5, .slice D xs.length e), (6, .int .i64 ((xs.length : Nat))), (7, .int .i64 ((j : Int)))] ∧ FR w0 (Wk2 w0 B pb) [] w) _ ⟨0, rfl, (Nat.zero_le _), (by simpa [Gg, Gj] using hB), (hX), (hp), An, hF⟩ ?_
 clear hF; rintro μ σ w ⟨j, rfl, hj, hB, hX, hp, hs, hF⟩
 refine Cg.slots hs ?_
 clear hs; intro σ
 refine Ha (Ca (Fj rfl rfl) (Da (Ia ?_)))
 refine Bc rfl rfl (fun hc0 => ?_) (fun hc0 => ?_)
 refine Ra (Ja (Ia (Db (Ha ?_))))
 obtain ⟨ad0, cs0, hA0, hl0, hk0, hx0⟩ := hX.tree_elem (i := j) by_Om
 have ho0 := hx0.one_
 have hxe := hx0
 refine Fa (v := .pointer (some (ad0.add (j * 4)))) (Ya (i := (j : Int)) Sj rfl hA0 rfl by_Om by_Om) (Fa (v := .agg (List.toArray cs0)) (Rb (l := cs0) isAgg25 sizeOf25 rfl hl0 hk0) ?_)
 refine I2 (l := cs0) hF zeroValue25 (by rw [hl0]; exact sizeOf25) (by rw [hl0]; rfl) (v := .agg (List.toArray cs0)) rfl rfl (ho0) rfl ?_
 clear hF; intro b1 w hb1 hF hE
 have hnb1 : b1 ≠ pb := by have := hB.lt; omega
 replace hB := hB.ext hE
 replace hX := hX.ext hE
 replace hxe := hxe.ext hE
 replace hp := Pk hp hE
 clear hE
 refine Da (Ga (Fa (v := .pointer (some ⟨pb, 0, none⟩)) (Vb isAgg52 rfl (Hc hp 0)) (Fa (v := .agg (List.toArray cs0)) (Rb (l := cs0) isAgg25 sizeOf25 rfl hl0 (hF.cellsAll 0 rfl)) ?_)))
 refine Zb (ih _ (List.getElem_mem (l := xs) (n := j) by_Om) _ B pb _ _ cs0 hB.tb (hxe.toOff hB) (hG.wrote2 hF.same (by have := hT.lt; omega) hpN) hpN (by rw [List.length_append, List.length_append, Dv]; omega) (hns _ (List.getElem_mem _)) (by have := If (List.getElem_mem (l := xs) (n := j) by_Om); omega) (by have := Pg (List.getElem_mem (l := xs) (n := j) by_Om); omega) (by have h1 := Oo xs (j + 1); rw [Kn xs j by_Om, List.length_append] at h1; rw [List.length_append]; omega)) (Pa VF rfl rfl rfl) ?_
 rintro _ w ⟨rfl, hT2, hE⟩
 replace hX := hX.offS hB hE
 replace hp := Az hp rfl hk1 hE
 replace hF := hF.wrote2 hB hE (by intro z hz; obtain rfl := List.mem_singleton.1 hz; exact ⟨.inl rfl, by assumption⟩)
 replace hB := hB.wrote hT2 hE
 clear hE
 refine Cb (Wb (Ja (Ga (Ca (Di (((j + 1 : Nat) : Int)) rfl rfl) (Ca (Za rfl) (Cb ?_))))))
 refine Gb ⟨_, ?_, j + 1, rfl, by_Om, (by rw [Kn xs j by_Om, Tt xs j by_Om, ← List.append_assoc, ← List.append_assoc, ← List.length_append]; exact hB), (hX), (hp), An, hF.drop 1⟩
 omega
 refine Oc (Nc rfl ?_)
 refine Ef (Rd (Ah rfl) ?_)
 obtain rfl : j = xs.length := by omega
 rw [List.take_length] at hB
 exact ⟨rfl, hB.tb, hF.same⟩
end Go.Scarf
namespace Go.Scarf
open Go.RowKit Go.Proofs Go.Proofs.Tryz
theorem IL (k : Int) (t : Str) (ks : List Str) (xs : List Tree) (A D : Option Addr) (c e : Nat) (w0 : World) (B pb : Nat) (ls : List Str) (fs : List Int) (hT : Tb w0 B pb ls fs) (hG : Gl w0) (hpN : 7 ≤ pb) (hlf : ls.length = fs.length) (ih : ∀ x ∈ xs, JD x) (hns : ∀ x ∈ xs, Yd nodeB x = true) (hsz : Zc xs ≤ 1000000000) (hm : Oj xs ≤ 1073741824) (hkx : ks.length = xs.length) (hkm : ∀ s ∈ ks, s.length ≤ 1073741824) (k0 k1 : Nat) (h0 : w0.heap[k0]? = some (.cells #[.int .i64 k, .string (bs t), .slice A ks.length c, .slice D xs.length e] 25)) (hp : w0.heap[k1]? = some (.cells #[.pointer (some ⟨pb, 0, none⟩)] 52)) (hne0 : k0 ≠ pb) (hne1 : k1 ≠ pb) (hX0 : Rep (fun b => b ∉ Wk2 w0 B pb) w0 (.slice (Je xs)) [.slice D xs.length e]) (hK0 : Rep (fun b => b ∉ Wk2 w0 B pb) w0 (We ks) [.slice A ks.length c]) (hlen : ls.length + (Df xs ks).length ≤ 512) : Calls prog 28 #[.pointer (some ⟨k0, 0, none⟩), .pointer (some ⟨k1, 0, none⟩)] w0 (Ce fun v w' => v = .tuple #[] ∧ Tb w' B pb (ls ++ Df xs ks) (fs ++ Si xs ks ls.length) ∧ Same (Wk2 w0 B pb) w0 w') := by
 have hX := hX0.toS0
 have hKs := hK0.toS0
 have hXl := hX.slice_len
 have hKl := hKs.slice_len
 have hxn := Bn xs
 refine Ma func28 rfl ntmps28 Qb (Wd _ _) ?_
 have hB := TW.start hT
 have hF := FR.start w0 (Wk2 w0 B pb)
 refine Ha (Ca (Fc Vc rfl) (Fa (v := .slice D xs.length e) (Vb isAgg23 rfl (Hc h0 3)) (Ca (Ji underlying23 rfl) (Ca (Za rfl) (Da (Db ?_))))))
 refine Xc (fun μ σ w => ∃ (j : Nat), μ = xs.length - j ∧ (j ≤ xs.length) ∧ (TW w0 (Wk2 w0 B pb) w B pb (ls ++ Df (xs.take j) ks) (fs ++ Si (xs.take j) ks ls.length)) ∧ (Rep (S0 w0 (Wk2 w0 B pb)) w (.slice (Je xs)) [.slice D xs.length e]) ∧ (Rep (S0 w0 (Wk2 w0 B pb)) w (We ks) [.slice A ks.length c]) ∧ (w.heap[k1]? = some (.cells #[.pointer (some ⟨pb, 0, none⟩)] 52)) ∧ (w.heap[k0]? = some (.cells #[.int .i64 k, .string (bs t), .slice A ks.length c, .slice D xs.length e] 25)) ∧ AllEq σ [(0, .pointer (some ⟨k0, 0, none⟩)), (1, .pointer (some ⟨k1, 0, none⟩)), (5, .slice D xs.length e), (6, .int .i64 ((xs.length : Nat))), (7, .int .i64 ((j : Int)))] ∧ FR w0 (Wk2 w0 B pb) [] w) _ ⟨0, rfl, (Nat.zero_le _), (by simpa [Df, Si] using hB), (hX), (hKs), (hp), (h0), Fp, hF⟩ ?_
 clear hF; rintro μ σ w ⟨j, rfl, hj, hB, hX, hKs, hp, hv, hs, hF⟩
 refine Cg.slots hs ?_
 clear hs; intro σ
 refine Ha (Ca (Fj rfl rfl) (Da (Ia ?_)))
 refine Bc rfl rfl (fun hc0 => ?_) (fun hc0 => ?_)
 refine Ra (Ja (Ia (Db (Ha (Ca (Za rfl) ?_)))))
 obtain ⟨ad0, cs0, hA0, hl0, hk0, hx0⟩ := hX.tree_elem (i := j) by_Om
 have ho0 := hx0.one_
 have hxe := hx0
 refine Fa (v := .pointer (some (ad0.add (j * 4)))) (Ya (i := (j : Int)) Sj rfl hA0 rfl by_Om by_Om) (Fa (v := .agg (List.toArray cs0)) (Rb (l := cs0) isAgg25 sizeOf25 rfl hl0 hk0) ?_)
 refine Af (cs := #[.int .i64 0, .string (bs []), .slice none 0 0, .slice none 0 0]) hF zeroValue25 rfl ?_
 clear hF; intro b1 w hb1 hF hE
 have hnb1 : b1 ≠ pb := by have := hB.lt; omega
 have hgb1 : w0.heap.size ≤ b1 := by have := hB.ge; omega
 have hkb1 : k0 ≠ b1 ∧ k1 ≠ b1 := ⟨by have := Jb hv; omega, by have := Jb hp; omega⟩
 have hrb1 : Cn w b1 = false := (Tm (hF.heap (i := 0) rfl)).trans rfl
 replace hB := hB.ext hE
 replace hX := hX.ext hE
 replace hKs := hKs.ext hE
 replace hxe := hxe.ext hE
 replace hp := Pk hp hE
 replace hv := Pk hv hE
 clear hE
 refine Ca (Kb rfl) ?_
 refine Pe 0 (l := cs0) (cs' := (List.toArray cs0)) hF (by rw [hl0]; exact sizeOf25) rfl (v := .agg (List.toArray cs0)) rfl rfl (ho0) rfl (by rw [hl0]; exact Nat.le_of_ble_eq_true rfl) (Mr (by rw [hl0]; rfl)) ?_
 clear hF; intro w hF hE
 replace hB := hB.step hE (by simpa using fun e => hnb1 e.symm) (by intro z hz; obtain rfl := List.mem_singleton.1 hz; exact hrb1) (by intro z hz; obtain rfl := List.mem_singleton.1 hz; exact (Tm (hF.heap (i := 0) rfl)).trans rfl)
 replace hX := hX.same hE (fun z hz hs => by obtain rfl := List.mem_singleton.1 hz; have := hs.1; omega)
 replace hKs := hKs.same hE (fun z hz hs => by obtain rfl := List.mem_singleton.1 hz; have := hs.1; omega)
 replace hxe := hxe.same hE (fun z hz hs => by obtain rfl := List.mem_singleton.1 hz; have := hs.1; omega)
 replace hp := (hE.block k1 (Jb hp) (by simpa using hkb1.2)).trans hp
 replace hv := (hE.block k0 (Jb hv) (by simpa using hkb1.1)).trans hv
 clear hE
 replace hF : FR w0 (Wk2 w0 B pb) [(b1, .cells (List.toArray cs0) 25)] w := hF
 refine Da ?_
 obtain ⟨adk, hAk, -⟩ := hKs.str_elem (i := j) by_Om
 have hkl := hkm ks[j] (List.getElem_mem _)
 refine De [] (.free 0 (.free 1 (.free 2 (.free 3 (.free 4 (.free 5 (.free 9 (.act 6 (.act 7 (.free 8 (.act 10 .nil))))))))))) hF ?_
 clear hF; intro w hF hE
 replace hB := hB.ext hE
 replace hX := hX.ext hE
 replace hKs := hKs.ext hE
 replace hxe := hxe.ext hE
 replace hp := Pk hp hE
 replace hv := Pk hv hE
 clear hE
 refine ⟨fun wq => FR w0 (Wk2 w0 B pb) _ wq ∧ wq.heap[k1]? = some (.cells #[.pointer (some ⟨pb, 0, none⟩)] 52) ∧ wq.heap[k0]? = some (.cells #[.int .i64 k, .string (bs t), .slice A ks.length c, .slice D xs.length e] 25) ∧ Rep (S0 w0 (Wk2 w0 B pb)) wq (We ks) [.slice A ks.length c], ⟨hF, ⟨hp, hv, hKs⟩⟩, ?_⟩
 refine Ib rfl (v := .pointer (some ⟨pb, 0, none⟩)) (fun w hC => Vb isAgg52 rfl (Hc hC.2.1 0)) (Eb rfl (Fc Nf rfl) (Ib rfl (v := .slice A ks.length c) (fun w hC => Vb isAgg22 rfl (Hc hC.2.2.1 2)) (Eb rfl (Za rfl) (Ib rfl (v := .pointer (some (adk.add (j * 1)))) (fun w hC => Ya (i := ((j : Nat) : Int)) Pj rfl hAk rfl by_Om by_Om) (Ib rfl (v := .string (bs (ks[j]))) (fun w hC => Vb isAgg9 rfl (E9 hC.2.2.2 hAk by_Om)) (Ib rfl (v := .func (.func 31) #[] #[.pointer (some ⟨k1, 0, none⟩), .pointer (some ⟨b1, 0, none⟩)]) (fun w hC => Cq rfl rfl) ?_))))))
 refine Xf rfl (ST ks[j] _) (Ua IR rfl rfl) ?_
 rintro _ w ⟨rfl, hE⟩
 replace hF := hF.ext hE
 replace hB := hB.ext hE
 replace hX := hX.ext hE
 replace hKs := hKs.ext hE
 replace hxe := hxe.ext hE
 replace hp := Pk hp hE
 replace hv := Pk hv hE
 clear hE
 refine ⟨⟨hF, ⟨hp, hv, hKs⟩⟩, ?_⟩
 refine Xf rfl (VC (.node 4 ks[j] [] []) (fun _ => True) _ [.int .i64 4, .string (bs ks[j]), .slice none 0 0, .slice none 0 0] (JM by_Om) (hG.wrote2 hF.same (by have := hT.lt; omega) hpN) (by simp [Ec, Zc]) (by rw [Bp]; omega)) (Ua TM rfl rfl) ?_
 rintro _ w ⟨rfl, hE⟩
 replace hF := hF.ext hE
 replace hB := hB.ext hE
 replace hX := hX.ext hE
 replace hKs := hKs.ext hE
 replace hxe := hxe.ext hE
 replace hp := Pk hp hE
 replace hv := Pk hv hE
 clear hE
 refine ⟨⟨hF, ⟨hp, hv, hKs⟩⟩, ?_⟩
 refine Ib rfl (v := .string (bs (Km ks[j]))) (fun w hC => by rw [← S8 _]; exact Tg rfl rfl (by have := Pr (.node 4 ks[j] [] []) (by rw [Bp]; omega); simp only [List.length_cons, List.length_nil]; omega)) ?_
 have hlb1 := Mo xs ks (j + 1)
 rw [In xs ks j by_Om by_Om, List.length_append, List.length_append, List.length_singleton] at hlb1
 have hlb2 : (ls ++ Df (xs.take j) ks).length = ls.length + (Df (xs.take j) ks).length := List.length_append
 refine Xf rfl (NB w B pb 31 #[.pointer (some ⟨k1, 0, none⟩), .pointer (some ⟨b1, 0, none⟩)] VS (ls ++ Df (xs.take j) ks) _ (fs ++ Si (xs.take j) ks ls.length) _ (Km ks[j]) hB.tb (AO xs[j] (ih _ (List.getElem_mem _)) w B pb (ls ++ Df (xs.take j) ks) (fs ++ Si (xs.take j) ks ls.length) hB.tb (hG.wrote2 hF.same (by have := hT.lt; omega) hpN) hpN (by rw [List.length_append, List.length_append, Fq]; omega) k1 b1 _ hp (hF.heap (i := 0) rfl) (hxe.toOff hB) (hns _ (List.getElem_mem _)) (by have := If (List.getElem_mem (l := xs) (n := j) by_Om); omega) (by have := Pg (List.getElem_mem (l := xs) (n := j) by_Om); omega) by_Om) (by rw [List.length_append]; omega) (by rw [List.length_append, Gf, List.length_append, Fq]; omega)) (Ff XC rfl rfl rfl rfl) ?_
 rintro _ w ⟨rfl, hT2, hE⟩
 replace hX := hX.offS hB hE
 replace hKs := hKs.offS hB hE
 replace hp := Az hp rfl hne1 hE
 replace hv := Az hv rfl hne0 hE
 replace hF := hF.wrote2 hB hE (by intro z hz; obtain rfl := List.mem_singleton.1 hz; exact ⟨.inl rfl, by assumption⟩)
 replace hB := hB.wrote hT2 hE
 clear hE
 refine ⟨⟨hF, ⟨hp, hv, hKs⟩⟩, ?_⟩
 refine Ic (Wb (Ja (Ga (Ca (Di (((j + 1 : Nat) : Int)) rfl rfl) (Ca (Za rfl) (Cb ?_))))))
 refine Gb ⟨_, ?_, j + 1, rfl, by_Om, (by rw [In xs ks j by_Om by_Om, Mt xs ks j by_Om by_Om]; simp only [← List.append_assoc]; rw [show ls.length + (Df (xs.take j) ks).length = (ls ++ Df (xs.take j) ks).length from List.length_append.symm]; exact hB), (hX), (hKs), (hp), (hv), Fp, hF.drop 1⟩
 omega
 refine Oc (Nc rfl ?_)
 refine Ef (Rd (Ah rfl) ?_)
 obtain rfl : j = xs.length := by omega
 rw [List.take_length] at hB
 exact ⟨rfl, hB.tb, hF.same⟩
end Go.Scarf
