/- A part of the proof. -/
import Derived.Test.YtpliibolgknenaaGreatDoorTb
import Derived.Test.YtpliibolgknenaaGreatDoorP3
import Derived.Test.YtpliibolgknenaaGreatDoorZ1
import Derived.Test.YtpliibolgknenaaGreatDoorW16
import Derived.Test.YtpliibolgknenaaGreatDoorBd
set_option linter.all false
namespace Go.Scarf
open Go.RowKit Go.Proofs
section
variable {w w' w0 : World} {Ds E : List Nat} {bs_ : List (Nat × Obj)} {B pb : Nat} {ls ls' : List Str} {fs fs' : List Int}
theorem Tb.made2 {A A' : Option Addr} {c c' : Nat} {sl sf : List (Nat × Obj)} (hF : FR w0 (Wk2 w0 B pb) ((bs_ ++ [(pb, .cells #[.slice A ls.length c, .slice A' fs.length c'] 53)]) ++ (sl ++ (sf ++ []))) w) (hp : pb < B) (hB : B ≤ w0.heap.size)
    (hL : SlB 9 1 A ls.length c (SVs ls) sl) (hN : SlB 3 1 A' fs.length c' (IVs fs) sf) : Tb w B pb ls fs := by
  refine Tb.made hF hp (Nat.le_trans hB hF.same.size) hL hN fun q hq => ?_
  have hm : q ∈ (bs_ ++ [(pb, Obj.cells #[.slice A ls.length c, .slice A' fs.length c'] 53)]) ++ (sl ++ (sf ++ [])) := by
    rcases List.mem_append.1 hq with h | h <;> simp [h]
  have hne : q.1 ≠ pb := by
    have := (List.pairwise_append.1 hF.desc).2.2 (pb, Obj.cells #[.slice A ls.length c, .slice A' fs.length c'] 53) (by simp) q (by rcases List.mem_append.1 hq with h | h <;> simp [h])
    exact this
  rcases (hF.own q hm).2 with h | h
  · omega
  · rcases mem_Wk2.1 h with h1 | ⟨-, h1, -⟩
    · exact absurd h1 hne
    · exact h1
def S0 (w0 : World) (Ds : List Nat) (b : Nat) : Prop := b < w0.heap.size ∧ b ∉ Ds
theorem Rep.offS {d : D} {cs : List Value} (h : Rep (S0 w0 Ds) w d cs) (hB : TW w0 Ds w B pb ls fs) (hs : Same (Wk2 w B pb) w w') : Rep (S0 w0 Ds) w' d cs := h.same hs fun b hb hn => hn.2 (hB.sub b hb hn.1)
theorem Rep.toOff {d : D} {cs : List Value} (h : Rep (S0 w0 Ds) w d cs) (hB : TW w0 Ds w B pb ls fs) : Rep (fun b => b ∉ Wk2 w B pb) w d cs := h.weaken fun b hb _ hm => hb.2 (hB.sub b hm hb.1)
theorem Rep.toS0 {d : D} {cs : List Value} (h : Rep (fun b => b ∉ Wk2 w0 B pb) w0 d cs) : Rep (S0 w0 (Wk2 w0 B pb)) w0 d cs := h.old.weaken fun b hb _ => ⟨hb.2, hb.1⟩
theorem heap_off {b : Nat} {o : Obj} (h : w.heap[b]? = some o) (hr : rowO2 o = false) (hb : b ≠ pb) (hs : Same (Wk2 w B pb) w w') : w'.heap[b]? = some o := by
  refine (hs.block b (lt_of_some h) fun hm => ?_).trans h
  rcases mem_Wk2.1 hm with h1 | ⟨-, -, h1⟩
  · exact hb h1
  · rw [rowAt2_of h, hr] at h1; cases h1
theorem heap_ext {b : Nat} {o : Obj} (h : w.heap[b]? = some o) (hs : Same [] w w') : w'.heap[b]? = some o := (hs.block b (lt_of_some h) (by simp)).trans h
theorem Gl.wrote2 (h : Gl w0) (hs : Same (Wk2 w0 B pb) w0 w) (hb : 7 ≤ B) (hp : 7 ≤ pb) : Gl w := h.same hs fun x hx => by
  rcases mem_Wk2.1 hx with rfl | ⟨-, h1, -⟩ <;> omega
end
set_option maxHeartbeats 1000000 in
set_option maxRecDepth 10000 in
theorem compT_c (x : Tree) (S : Nat → Prop) (w0 : World) (cs : List Value) (hR : Rep S w0 (treeD x) cs) (hG : Gl w0) (hsz : sizeT x ≤ 1000000000) (hm : maxL x ≤ 1073741824) : Calls Tryz.prog 46 #[.agg cs.toArray] w0 (Ret fun v w' => v = .string (bs (compS x)) ∧ Same [] w0 w') := by
 have hl : cs.length = 4 := hR.length.trans (size_treeD x)
 have ho := hR.one_
 refine calls_start Tryz.func46 rfl Tryz.ntmps46 (Nat.le_of_ble_eq_true rfl) (args_1 _) ?_
 have hF := FR.start w0 []
 refine c_seq (c_region ?_)
 refine o_box (v := .agg (List.toArray cs)) (cs := (List.toArray cs)) hF rfl rfl ?_
 clear hF; rintro b1 w hb1 hF -
 refine o_val (x_assign rfl) (o_nil (e_seq (c_seq (c_region (o_val (v := .agg (List.toArray cs)) (x_loadS (l := cs) Tryz.isAgg25 Tryz.sizeOf25 rfl hl (hF.cellsAll 0 rfl)) ?_)))))
 refine o_call (comp_c x _ _ cs (hF.rep hR) (hG.ext hF.same) hsz hm) (x_call1 en_69 rfl rfl) ?_
 rintro _ w ⟨rfl, hE⟩
 replace hF := hF.ext hE
 clear hE
 refine o_val (x_move rfl) (o_val (x_extract rfl rfl) (o_val (x_extract rfl rfl) (o_val (x_assign rfl) (o_val (x_assign rfl) (o_nil (e_seq (c_seq (c_region (o_val (x_move rfl) (o_val (x_assign rfl) (o_nil (e_seq ?_))))))))))))
 refine c_ret (e_ret (post_ret (res_1 (v := .string (bs (compS x))) rfl rfl) ?_))
 exact ⟨rfl, hF.same⟩
set_option maxHeartbeats 4000000 in
set_option maxRecDepth 10000 in
theorem add_c (w0 : World) (B pb K : Nat) (caps : Array Value) (hen : Enters Tryz.prog K) (ls ls' : List Str) (fs fs' : List Int) (lab : Str) (hT : Tb w0 B pb ls fs) (hkids : Calls Tryz.prog K caps w0 (Ret fun v w' => v = .tuple #[] ∧ Tb w' B pb (ls') (fs') ∧ Same (Wk2 w0 B pb) w0 w')) (hl1 : ls'.length ≤ 512) (hl2 : fs'.length ≤ 512) : Calls Tryz.prog 43 #[.pointer (some ⟨pb, 0, none⟩), .string (bs lab), .func (.func K) #[] caps] w0 (Ret fun v w' => v = .tuple #[] ∧ Tb w' B pb (ls' ++ [lab]) (fs' ++ [(ls.length : Int)]) ∧ Same (Wk2 w0 B pb) w0 w') := by
 refine calls_start Tryz.func43 rfl Tryz.ntmps43 (Nat.le_of_ble_eq_true rfl) (args_3 _ _ _) ?_
 have hB := TW.start hT
 have hF := FR.start w0 (Wk2 w0 B pb)
 obtain ⟨P0, q0, P9, q9, hpb⟩ := hT.len
 refine c_seq (c_region (o_val (x_move rfl) (o_val (v := .pointer (some ⟨pb, 0, none⟩)) (x_nilCheck rfl) (o_val (v := .pointer (some ⟨pb, 0, none⟩)) (x_fieldAddrO fa_53_0 rfl) (o_val (v := .pointer (some ⟨pb, 0, none⟩)) (x_fieldAddrO fa_30_0 rfl) (o_val (v := .slice (P0) (ls.length) (q0)) (x_load Tryz.isAgg22 rfl (cell_of_heap hpb 0)) (o_val (v := .int .i64 ((ls.length : Nat))) (x_len_slice Tryz.underlying22 rfl) (o_val (x_assign rfl) (o_nil (e_seq (c_seq (c_region (o_val (x_move rfl) ?_)))))))))))))
 refine o_call hkids (x_callv0 rfl hen (by simp)) ?_
 rintro _ w ⟨rfl, hT2, hE⟩
 replace hF := hF.wrote2 hB hE (by simp)
 replace hB := hB.wrote hT2 hE
 clear hE
 obtain ⟨P1, q1, sl, P2, q2, sf, hL, hN, hF2, -⟩ := hB.open_ hF (by simp)
 clear hF
 have hF : FR w0 (Wk2 w0 B pb) ([(pb, .cells #[.slice P1 ls'.length q1, .slice P2 fs'.length q2] 53)] ++ (sl ++ (sf ++ []))) w := hF2
 clear hF2
 refine o_nil (e_seq (c_seq (c_region (o_val (x_move rfl) (o_val (v := .pointer (some ⟨pb, 0, none⟩)) (x_nilCheck rfl) (o_val (v := .pointer (some ⟨pb, 0, none⟩)) (x_fieldAddrO fa_53_0 rfl) (o_val (v := .pointer (some ⟨pb, 0, none⟩)) (x_fieldAddrO fa_30_0 rfl) (o_val (v := .slice (P1) (ls'.length) (q1)) (x_load Tryz.isAgg22 rfl (hF.cell 0 rfl rfl)) (o_val (v := .int .i64 ((ls'.length : Nat))) (x_len_slice Tryz.underlying22 rfl) (o_val (v := .bool true) (run_true (x_leq rfl rfl) (by omega)) (o_nil (e_seq (c_ift rfl ?_)))))))))))))
 refine c_drawF [25] (.free 0 (.free 1 (.free 2 (.free 3 (.free 4 (.free 5 (.free 7 (.free 10 (.free 11 (.free 12 (.free 13 (.free 14 (.free 15 (.alt 6 (.alt 8 (.alt 9 (.act 16 (.act 17 (.free 18 (.free 19 (.free 20 (.act 21 (.act 22 (.act 23 (.free 24 (.act 25 .nil)))))))))) (.act 16 (.act 9 (.act 17 (.free 18 (.free 19 (.free 20 (.act 21 (.act 22 (.act 23 (.free 24 (.act 25 .nil)))))))))))) (.act 16 (.act 8 (.act 9 (.act 17 (.free 18 (.free 19 (.free 20 (.act 21 (.act 22 (.act 23 (.free 24 (.act 25 .nil))))))))))))) (.alt 8 (.alt 6 (.alt 9 (.act 16 (.act 17 (.free 18 (.free 19 (.free 20 (.act 21 (.act 22 (.act 23 (.free 24 (.act 25 .nil)))))))))) (.act 16 (.act 9 (.act 17 (.free 18 (.free 19 (.free 20 (.act 21 (.act 22 (.act 23 (.free 24 (.act 25 .nil)))))))))))) (.act 16 (.act 6 (.act 9 (.act 17 (.free 18 (.free 19 (.free 20 (.act 21 (.act 22 (.act 23 (.free 24 (.act 25 .nil))))))))))))) (.act 16 (.alt 6 (.act 8 (.act 9 (.act 17 (.free 18 (.free 19 (.free 20 (.act 21 (.act 22 (.act 23 (.free 24 (.act 25 .nil))))))))))) (.act 8 (.act 6 (.act 9 (.act 17 (.free 18 (.free 19 (.free 20 (.act 21 (.act 22 (.act 23 (.free 24 (.act 25 .nil))))))))))))))))))))))))))))) (by kernel_rfl) hF (by kernel_rfl) (by kernel_rfl) ?_
 clear hF; rintro w hF -
 refine ⟨fun wq => FR w0 (Wk2 w0 B pb) [] wq ∧ wq.cell? ⟨pb, 1, none⟩ = some (.slice P2 fs'.length q2), ⟨hF.sub (.cons _ (List.nil_sublist _)), hF.cell 0 rfl rfl⟩, ?_⟩
 refine f_free rfl (v := .pointer (some ⟨pb, 0, none⟩)) (fun w hC => x_move rfl) (f_free rfl (v := .pointer (some ⟨pb, 0, none⟩)) (fun w hC => x_move rfl) (f_free rfl (v := .pointer (some ⟨pb, 0, none⟩)) (fun w hC => x_move rfl) (f_free rfl (v := .pointer (some ⟨pb, 0, none⟩)) (fun w hC => x_nilCheck rfl) (f_free rfl (v := .pointer (some ⟨pb, 0, none⟩)) (fun w hC => x_fieldAddrO fa_53_0 rfl) (f_free rfl (v := .pointer (some ⟨pb, 0, none⟩)) (fun w hC => x_fieldAddrO fa_30_0 rfl) (f_free rfl (v := .string (bs (lab))) (fun w hC => x_move rfl) (f_free rfl (v := .pointer (some ⟨pb, 0, none⟩)) (fun w hC => x_move rfl) (f_free rfl (v := .pointer (some ⟨pb, 0, none⟩)) (fun w hC => x_nilCheck rfl) (f_free rfl (v := .pointer (some ⟨pb, 0, none⟩)) (fun w hC => x_fieldAddrO fa_53_0 rfl) (f_free rfl (v := .pointer (some ⟨pb, 1, none⟩)) (fun w hC => x_fieldAddrO fa_30_1 rfl) (f_free rfl (v := .slice (P2) (fs'.length) (q2)) (fun w hC => x_load Tryz.isAgg28 rfl hC.2) (f_free rfl (v := .int .i64 ((ls.length : Nat))) (fun w hC => x_move rfl) ?_))))))))))))
 refine d_alt ?_ ?_
 refine f_act rfl (v := .slice (P1) (ls'.length) (q1)) (x_load Tryz.isAgg22 rfl (hF.cell 0 rfl rfl)) (⟨hF.sub (.cons _ (List.nil_sublist _)), hF.cell 0 rfl rfl⟩) ?_
 refine d_alt ?_ ?_
 refine f_new rfl (v := fun b => .slice (some ⟨b, 0, none⟩) 1 1) hF (x_buildSlice (cs := #[.string (bs (lab))]) Tryz.underlying22 Tryz.sizeOf9 Tryz.zeroValue9 (by decide) (by decide) (by kernel_rfl)) ?_
 clear hF; rintro b1 w hb1 hF -
 refine ⟨⟨hF.sub (.cons _ (.cons _ (List.nil_sublist _))), hF.cell 1 rfl rfl⟩, ?_⟩
 refine d_alt ?_ ?_
 refine f_append [(b1, .cells #[.string (bs (lab))] 9), (pb, .cells #[.slice (P1) (ls'.length) (q1), .slice (P2) (fs'.length) (q2)] 53)] (sf ++ []) (news := [.string (bs (lab))]) (len' := (ls' ++ [lab]).length) (ys := SVs (ls' ++ [lab])) rfl el_22 hF hL rfl rfl (rfl) (fun _ => ⟨_, rfl, cells_opt (hF.cellsAll 0 rfl)⟩) (by simp [Value.oneCell']) (by simp only [maxLen]; omega) (by simp) (by simp [SVs]) (by omega) ?_
 clear hF; intro A0 c0 L_0 w hS0_L hF hE hnew
 clear hE hnew
 refine ⟨⟨hF.sub (.cons _ (.cons _ (List.nil_sublist _))), hF.cell 1 rfl rfl⟩, ?_⟩
 refine f_new rfl (v := fun b => .slice (some ⟨b, 0, none⟩) 1 1) hF (x_buildSlice (cs := #[.int .i64 ((ls.length : Nat))]) Tryz.underlying28 Tryz.sizeOf3 Tryz.zeroValue3 (by decide) (by decide) (by kernel_rfl)) ?_
 clear hF; rintro b2 w hb2 hF -
 refine ⟨⟨hF.sub (.cons _ (.cons _ (.cons _ (List.nil_sublist _)))), hF.cell 2 rfl rfl⟩, ?_⟩
 refine f_append ([(b2, .cells #[.int .i64 ((ls.length : Nat))] 3), (b1, .cells #[.string (bs (lab))] 9), (pb, .cells #[.slice (P1) (ls'.length) (q1), .slice (P2) (fs'.length) (q2)] 53)] ++ L_0) [] (news := [.int .i64 ((ls.length : Nat))]) (len' := (fs' ++ [(ls.length : Int)]).length) (ys := IVs (fs' ++ [(ls.length : Int)])) rfl el_28 hF hN rfl rfl (rfl) (fun _ => ⟨_, rfl, cells_opt (hF.cellsAll 0 rfl)⟩) (by simp [Value.oneCell']) (by simp only [maxLen]; omega) (by simp) (by simp [IVs]) (by omega) ?_
 clear hF; intro A1 c1 N_1 w hS1_N hF hE hnew
 clear hE hnew
 refine ⟨⟨hF.sub (.cons _ (.cons _ (.cons _ (List.nil_sublist _)))), hF.cell 2 rfl rfl⟩, ?_⟩
 refine f_free rfl (v := .pointer (some ⟨pb, 0, none⟩)) (fun w hC => x_nilCheck rfl) (f_free rfl (v := .pointer (some ⟨pb, 0, none⟩)) (fun w hC => x_fieldAddrO fa_53_0 rfl) (f_free rfl (v := .pointer (some ⟨pb, 0, none⟩)) (fun w hC => x_fieldAddrO fa_30_0 rfl) ?_))
 refine f_store rfl 2 (l := [.slice (A0) ((ls' ++ [lab]).length) (c0)]) (cs' := #[.slice (A0) ((ls' ++ [lab]).length) (c0), .slice (P2) (fs'.length) (q2)]) hF Tryz.sizeOf22 rfl (v := .slice (A0) ((ls' ++ [lab]).length) (c0)) rfl rfl (by simp [one]) rfl (Nat.le_of_ble_eq_true rfl) rfl ?_
 clear hF; rintro w hF -
 replace hF : FR w0 (Wk2 w0 B pb) ([(b2, .cells #[.int .i64 ((ls.length : Nat))] 3), (b1, .cells #[.string (bs (lab))] 9), (pb, .cells #[.slice (A0) ((ls' ++ [lab]).length) (c0), .slice (P2) (fs'.length) (q2)] 53)] ++ (L_0 ++ (N_1 ++ []))) w := hF
 refine ⟨⟨hF.sub (.cons _ (.cons _ (.cons _ (List.nil_sublist _)))), hF.cell 2 rfl rfl⟩, ?_⟩
 refine f_act rfl (v := .pointer (some ⟨pb, 0, none⟩)) (x_nilCheck rfl) (⟨hF.sub (.cons _ (.cons _ (.cons _ (List.nil_sublist _)))), hF.cell 2 rfl rfl⟩) ?_
 refine f_act rfl (v := .pointer (some ⟨pb, 0, none⟩)) (x_fieldAddrO fa_53_0 rfl) (⟨hF.sub (.cons _ (.cons _ (.cons _ (List.nil_sublist _)))), hF.cell 2 rfl rfl⟩) ?_
 refine f_free rfl (v := .pointer (some ⟨pb, 1, none⟩)) (fun w hC => x_fieldAddrO fa_30_1 rfl) ?_
 refine f_storez rfl 2 (l := [.slice (A1) ((fs' ++ [(ls.length : Int)]).length) (c1)]) (cs' := #[.slice (A0) ((ls' ++ [lab]).length) (c0), .slice (A1) ((fs' ++ [(ls.length : Int)]).length) (c1)]) hF Tryz.sizeOf28 rfl (v := .slice (A1) ((fs' ++ [(ls.length : Int)]).length) (c1)) rfl rfl (by simp [one]) rfl (Nat.le_of_ble_eq_true rfl) rfl ?_
 clear hF; rintro w hF -
 replace hF : FR w0 (Wk2 w0 B pb) ([(b2, .cells #[.int .i64 ((ls.length : Nat))] 3), (b1, .cells #[.string (bs (lab))] 9), (pb, .cells #[.slice (A0) ((ls' ++ [lab]).length) (c0), .slice (A1) ((fs' ++ [(ls.length : Int)]).length) (c1)] 53)] ++ (L_0 ++ (N_1 ++ []))) w := hF
 refine d_nil ?_
 refine e_done (post_end (res_0 rfl) ?_)
 exact ⟨rfl, Tb.made2 (bs_ := [_, _]) (sl := L_0) (sf := N_1) hF hT.lt hT.le hS0_L hS1_N, hF.same⟩
 refine f_new rfl (v := fun b => .slice (some ⟨b, 0, none⟩) 1 1) hF (x_buildSlice (cs := #[.int .i64 ((ls.length : Nat))]) Tryz.underlying28 Tryz.sizeOf3 Tryz.zeroValue3 (by decide) (by decide) (by kernel_rfl)) ?_
 clear hF; rintro b3 w hb3 hF -
 refine ⟨⟨hF.sub (.cons _ (.cons _ (.cons _ (List.nil_sublist _)))), hF.cell 2 rfl rfl⟩, ?_⟩
 refine f_append [(b3, .cells #[.int .i64 ((ls.length : Nat))] 3), (b1, .cells #[.string (bs (lab))] 9), (pb, .cells #[.slice (P1) (ls'.length) (q1), .slice (P2) (fs'.length) (q2)] 53)] (sf ++ []) (news := [.string (bs (lab))]) (len' := (ls' ++ [lab]).length) (ys := SVs (ls' ++ [lab])) rfl el_22 hF hL rfl rfl (rfl) (fun _ => ⟨_, rfl, cells_opt (hF.cellsAll 1 rfl)⟩) (by simp [Value.oneCell']) (by simp only [maxLen]; omega) (by simp) (by simp [SVs]) (by omega) ?_
 clear hF; intro A2 c2 L_2 w hS2_L hF hE hnew
 clear hE hnew
 refine ⟨⟨hF.sub (.cons _ (.cons _ (.cons _ (List.nil_sublist _)))), hF.cell 2 rfl rfl⟩, ?_⟩
 refine f_append ([(b3, .cells #[.int .i64 ((ls.length : Nat))] 3), (b1, .cells #[.string (bs (lab))] 9), (pb, .cells #[.slice (P1) (ls'.length) (q1), .slice (P2) (fs'.length) (q2)] 53)] ++ L_2) [] (news := [.int .i64 ((ls.length : Nat))]) (len' := (fs' ++ [(ls.length : Int)]).length) (ys := IVs (fs' ++ [(ls.length : Int)])) rfl el_28 hF hN rfl rfl (rfl) (fun _ => ⟨_, rfl, cells_opt (hF.cellsAll 0 rfl)⟩) (by simp [Value.oneCell']) (by simp only [maxLen]; omega) (by simp) (by simp [IVs]) (by omega) ?_
 clear hF; intro A3 c3 N_3 w hS3_N hF hE hnew
 clear hE hnew
 refine ⟨⟨hF.sub (.cons _ (.cons _ (.cons _ (List.nil_sublist _)))), hF.cell 2 rfl rfl⟩, ?_⟩
 refine f_free rfl (v := .pointer (some ⟨pb, 0, none⟩)) (fun w hC => x_nilCheck rfl) (f_free rfl (v := .pointer (some ⟨pb, 0, none⟩)) (fun w hC => x_fieldAddrO fa_53_0 rfl) (f_free rfl (v := .pointer (some ⟨pb, 0, none⟩)) (fun w hC => x_fieldAddrO fa_30_0 rfl) ?_))
 refine f_store rfl 2 (l := [.slice (A2) ((ls' ++ [lab]).length) (c2)]) (cs' := #[.slice (A2) ((ls' ++ [lab]).length) (c2), .slice (P2) (fs'.length) (q2)]) hF Tryz.sizeOf22 rfl (v := .slice (A2) ((ls' ++ [lab]).length) (c2)) rfl rfl (by simp [one]) rfl (Nat.le_of_ble_eq_true rfl) rfl ?_
 clear hF; rintro w hF -
 replace hF : FR w0 (Wk2 w0 B pb) ([(b3, .cells #[.int .i64 ((ls.length : Nat))] 3), (b1, .cells #[.string (bs (lab))] 9), (pb, .cells #[.slice (A2) ((ls' ++ [lab]).length) (c2), .slice (P2) (fs'.length) (q2)] 53)] ++ (L_2 ++ (N_3 ++ []))) w := hF
 refine ⟨⟨hF.sub (.cons _ (.cons _ (.cons _ (List.nil_sublist _)))), hF.cell 2 rfl rfl⟩, ?_⟩
 refine f_act rfl (v := .pointer (some ⟨pb, 0, none⟩)) (x_nilCheck rfl) (⟨hF.sub (.cons _ (.cons _ (.cons _ (List.nil_sublist _)))), hF.cell 2 rfl rfl⟩) ?_
 refine f_act rfl (v := .pointer (some ⟨pb, 0, none⟩)) (x_fieldAddrO fa_53_0 rfl) (⟨hF.sub (.cons _ (.cons _ (.cons _ (List.nil_sublist _)))), hF.cell 2 rfl rfl⟩) ?_
 refine f_free rfl (v := .pointer (some ⟨pb, 1, none⟩)) (fun w hC => x_fieldAddrO fa_30_1 rfl) ?_
 refine f_storez rfl 2 (l := [.slice (A3) ((fs' ++ [(ls.length : Int)]).length) (c3)]) (cs' := #[.slice (A2) ((ls' ++ [lab]).length) (c2), .slice (A3) ((fs' ++ [(ls.length : Int)]).length) (c3)]) hF Tryz.sizeOf28 rfl (v := .slice (A3) ((fs' ++ [(ls.length : Int)]).length) (c3)) rfl rfl (by simp [one]) rfl (Nat.le_of_ble_eq_true rfl) rfl ?_
 clear hF; rintro w hF -
 replace hF : FR w0 (Wk2 w0 B pb) ([(b3, .cells #[.int .i64 ((ls.length : Nat))] 3), (b1, .cells #[.string (bs (lab))] 9), (pb, .cells #[.slice (A2) ((ls' ++ [lab]).length) (c2), .slice (A3) ((fs' ++ [(ls.length : Int)]).length) (c3)] 53)] ++ (L_2 ++ (N_3 ++ []))) w := hF
 refine d_nil ?_
 refine e_done (post_end (res_0 rfl) ?_)
 exact ⟨rfl, Tb.made2 (bs_ := [_, _]) (sl := L_2) (sf := N_3) hF hT.lt hT.le hS2_L hS3_N, hF.same⟩
 refine f_new rfl (v := fun b => .slice (some ⟨b, 0, none⟩) 1 1) hF (x_buildSlice (cs := #[.int .i64 ((ls.length : Nat))]) Tryz.underlying28 Tryz.sizeOf3 Tryz.zeroValue3 (by decide) (by decide) (by kernel_rfl)) ?_
 clear hF; rintro b4 w hb4 hF -
 refine ⟨⟨hF.sub (.cons _ (.cons _ (List.nil_sublist _))), hF.cell 1 rfl rfl⟩, ?_⟩
 refine f_new rfl (v := fun b => .slice (some ⟨b, 0, none⟩) 1 1) hF (x_buildSlice (cs := #[.string (bs (lab))]) Tryz.underlying22 Tryz.sizeOf9 Tryz.zeroValue9 (by decide) (by decide) (by kernel_rfl)) ?_
 clear hF; rintro b5 w hb5 hF -
 refine ⟨⟨hF.sub (.cons _ (.cons _ (.cons _ (List.nil_sublist _)))), hF.cell 2 rfl rfl⟩, ?_⟩
 refine f_append [(b5, .cells #[.string (bs (lab))] 9), (b4, .cells #[.int .i64 ((ls.length : Nat))] 3), (pb, .cells #[.slice (P1) (ls'.length) (q1), .slice (P2) (fs'.length) (q2)] 53)] (sf ++ []) (news := [.string (bs (lab))]) (len' := (ls' ++ [lab]).length) (ys := SVs (ls' ++ [lab])) rfl el_22 hF hL rfl rfl (rfl) (fun _ => ⟨_, rfl, cells_opt (hF.cellsAll 0 rfl)⟩) (by simp [Value.oneCell']) (by simp only [maxLen]; omega) (by simp) (by simp [SVs]) (by omega) ?_
 clear hF; intro A4 c4 L_4 w hS4_L hF hE hnew
 clear hE hnew
 refine ⟨⟨hF.sub (.cons _ (.cons _ (.cons _ (List.nil_sublist _)))), hF.cell 2 rfl rfl⟩, ?_⟩
 refine f_append ([(b5, .cells #[.string (bs (lab))] 9), (b4, .cells #[.int .i64 ((ls.length : Nat))] 3), (pb, .cells #[.slice (P1) (ls'.length) (q1), .slice (P2) (fs'.length) (q2)] 53)] ++ L_4) [] (news := [.int .i64 ((ls.length : Nat))]) (len' := (fs' ++ [(ls.length : Int)]).length) (ys := IVs (fs' ++ [(ls.length : Int)])) rfl el_28 hF hN rfl rfl (rfl) (fun _ => ⟨_, rfl, cells_opt (hF.cellsAll 1 rfl)⟩) (by simp [Value.oneCell']) (by simp only [maxLen]; omega) (by simp) (by simp [IVs]) (by omega) ?_
 clear hF; intro A5 c5 N_5 w hS5_N hF hE hnew
 clear hE hnew
 refine ⟨⟨hF.sub (.cons _ (.cons _ (.cons _ (List.nil_sublist _)))), hF.cell 2 rfl rfl⟩, ?_⟩
 refine f_free rfl (v := .pointer (some ⟨pb, 0, none⟩)) (fun w hC => x_nilCheck rfl) (f_free rfl (v := .pointer (some ⟨pb, 0, none⟩)) (fun w hC => x_fieldAddrO fa_53_0 rfl) (f_free rfl (v := .pointer (some ⟨pb, 0, none⟩)) (fun w hC => x_fieldAddrO fa_30_0 rfl) ?_))
 refine f_store rfl 2 (l := [.slice (A4) ((ls' ++ [lab]).length) (c4)]) (cs' := #[.slice (A4) ((ls' ++ [lab]).length) (c4), .slice (P2) (fs'.length) (q2)]) hF Tryz.sizeOf22 rfl (v := .slice (A4) ((ls' ++ [lab]).length) (c4)) rfl rfl (by simp [one]) rfl (Nat.le_of_ble_eq_true rfl) rfl ?_
 clear hF; rintro w hF -
 replace hF : FR w0 (Wk2 w0 B pb) ([(b5, .cells #[.string (bs (lab))] 9), (b4, .cells #[.int .i64 ((ls.length : Nat))] 3), (pb, .cells #[.slice (A4) ((ls' ++ [lab]).length) (c4), .slice (P2) (fs'.length) (q2)] 53)] ++ (L_4 ++ (N_5 ++ []))) w := hF
 refine ⟨⟨hF.sub (.cons _ (.cons _ (.cons _ (List.nil_sublist _)))), hF.cell 2 rfl rfl⟩, ?_⟩
 refine f_act rfl (v := .pointer (some ⟨pb, 0, none⟩)) (x_nilCheck rfl) (⟨hF.sub (.cons _ (.cons _ (.cons _ (List.nil_sublist _)))), hF.cell 2 rfl rfl⟩) ?_
 refine f_act rfl (v := .pointer (some ⟨pb, 0, none⟩)) (x_fieldAddrO fa_53_0 rfl) (⟨hF.sub (.cons _ (.cons _ (.cons _ (List.nil_sublist _)))), hF.cell 2 rfl rfl⟩) ?_
 refine f_free rfl (v := .pointer (some ⟨pb, 1, none⟩)) (fun w hC => x_fieldAddrO fa_30_1 rfl) ?_
 refine f_storez rfl 2 (l := [.slice (A5) ((fs' ++ [(ls.length : Int)]).length) (c5)]) (cs' := #[.slice (A4) ((ls' ++ [lab]).length) (c4), .slice (A5) ((fs' ++ [(ls.length : Int)]).length) (c5)]) hF Tryz.sizeOf28 rfl (v := .slice (A5) ((fs' ++ [(ls.length : Int)]).length) (c5)) rfl rfl (by simp [one]) rfl (Nat.le_of_ble_eq_true rfl) rfl ?_
 clear hF; rintro w hF -
 replace hF : FR w0 (Wk2 w0 B pb) ([(b5, .cells #[.string (bs (lab))] 9), (b4, .cells #[.int .i64 ((ls.length : Nat))] 3), (pb, .cells #[.slice (A4) ((ls' ++ [lab]).length) (c4), .slice (A5) ((fs' ++ [(ls.length : Int)]).length) (c5)] 53)] ++ (L_4 ++ (N_5 ++ []))) w := hF
 refine d_nil ?_
 refine e_done (post_end (res_0 rfl) ?_)
 exact ⟨rfl, Tb.made2 (bs_ := [_, _]) (sl := L_4) (sf := N_5) hF hT.lt hT.le hS4_L hS5_N, hF.same⟩
 refine d_alt ?_ ?_
 refine f_new rfl (v := fun b => .slice (some ⟨b, 0, none⟩) 1 1) hF (x_buildSlice (cs := #[.string (bs (lab))]) Tryz.underlying22 Tryz.sizeOf9 Tryz.zeroValue9 (by decide) (by decide) (by kernel_rfl)) ?_
 clear hF; rintro b6 w hb6 hF -
 refine ⟨⟨hF.sub (.cons _ (.cons _ (List.nil_sublist _))), hF.cell 1 rfl rfl⟩, ?_⟩
 refine d_alt ?_ ?_
 refine f_act rfl (v := .slice (P1) (ls'.length) (q1)) (x_load Tryz.isAgg22 rfl (hF.cell 1 rfl rfl)) (⟨hF.sub (.cons _ (.cons _ (List.nil_sublist _))), hF.cell 1 rfl rfl⟩) ?_
 refine d_alt ?_ ?_
 refine f_append [(b6, .cells #[.string (bs (lab))] 9), (pb, .cells #[.slice (P1) (ls'.length) (q1), .slice (P2) (fs'.length) (q2)] 53)] (sf ++ []) (news := [.string (bs (lab))]) (len' := (ls' ++ [lab]).length) (ys := SVs (ls' ++ [lab])) rfl el_22 hF hL rfl rfl (rfl) (fun _ => ⟨_, rfl, cells_opt (hF.cellsAll 0 rfl)⟩) (by simp [Value.oneCell']) (by simp only [maxLen]; omega) (by simp) (by simp [SVs]) (by omega) ?_
 clear hF; intro A6 c6 L_6 w hS6_L hF hE hnew
 clear hE hnew
 refine ⟨⟨hF.sub (.cons _ (.cons _ (List.nil_sublist _))), hF.cell 1 rfl rfl⟩, ?_⟩
 refine f_new rfl (v := fun b => .slice (some ⟨b, 0, none⟩) 1 1) hF (x_buildSlice (cs := #[.int .i64 ((ls.length : Nat))]) Tryz.underlying28 Tryz.sizeOf3 Tryz.zeroValue3 (by decide) (by decide) (by kernel_rfl)) ?_
 clear hF; rintro b7 w hb7 hF -
 refine ⟨⟨hF.sub (.cons _ (.cons _ (.cons _ (List.nil_sublist _)))), hF.cell 2 rfl rfl⟩, ?_⟩
 refine f_append ([(b7, .cells #[.int .i64 ((ls.length : Nat))] 3), (b6, .cells #[.string (bs (lab))] 9), (pb, .cells #[.slice (P1) (ls'.length) (q1), .slice (P2) (fs'.length) (q2)] 53)] ++ L_6) [] (news := [.int .i64 ((ls.length : Nat))]) (len' := (fs' ++ [(ls.length : Int)]).length) (ys := IVs (fs' ++ [(ls.length : Int)])) rfl el_28 hF hN rfl rfl (rfl) (fun _ => ⟨_, rfl, cells_opt (hF.cellsAll 0 rfl)⟩) (by simp [Value.oneCell']) (by simp only [maxLen]; omega) (by simp) (by simp [IVs]) (by omega) ?_
 clear hF; intro A7 c7 N_7 w hS7_N hF hE hnew
 clear hE hnew
 refine ⟨⟨hF.sub (.cons _ (.cons _ (.cons _ (List.nil_sublist _)))), hF.cell 2 rfl rfl⟩, ?_⟩
 refine f_free rfl (v := .pointer (some ⟨pb, 0, none⟩)) (fun w hC => x_nilCheck rfl) (f_free rfl (v := .pointer (some ⟨pb, 0, none⟩)) (fun w hC => x_fieldAddrO fa_53_0 rfl) (f_free rfl (v := .pointer (some ⟨pb, 0, none⟩)) (fun w hC => x_fieldAddrO fa_30_0 rfl) ?_))
 refine f_store rfl 2 (l := [.slice (A6) ((ls' ++ [lab]).length) (c6)]) (cs' := #[.slice (A6) ((ls' ++ [lab]).length) (c6), .slice (P2) (fs'.length) (q2)]) hF Tryz.sizeOf22 rfl (v := .slice (A6) ((ls' ++ [lab]).length) (c6)) rfl rfl (by simp [one]) rfl (Nat.le_of_ble_eq_true rfl) rfl ?_
 clear hF; rintro w hF -
 replace hF : FR w0 (Wk2 w0 B pb) ([(b7, .cells #[.int .i64 ((ls.length : Nat))] 3), (b6, .cells #[.string (bs (lab))] 9), (pb, .cells #[.slice (A6) ((ls' ++ [lab]).length) (c6), .slice (P2) (fs'.length) (q2)] 53)] ++ (L_6 ++ (N_7 ++ []))) w := hF
 refine ⟨⟨hF.sub (.cons _ (.cons _ (.cons _ (List.nil_sublist _)))), hF.cell 2 rfl rfl⟩, ?_⟩
 refine f_act rfl (v := .pointer (some ⟨pb, 0, none⟩)) (x_nilCheck rfl) (⟨hF.sub (.cons _ (.cons _ (.cons _ (List.nil_sublist _)))), hF.cell 2 rfl rfl⟩) ?_
 refine f_act rfl (v := .pointer (some ⟨pb, 0, none⟩)) (x_fieldAddrO fa_53_0 rfl) (⟨hF.sub (.cons _ (.cons _ (.cons _ (List.nil_sublist _)))), hF.cell 2 rfl rfl⟩) ?_
 refine f_free rfl (v := .pointer (some ⟨pb, 1, none⟩)) (fun w hC => x_fieldAddrO fa_30_1 rfl) ?_
 refine f_storez rfl 2 (l := [.slice (A7) ((fs' ++ [(ls.length : Int)]).length) (c7)]) (cs' := #[.slice (A6) ((ls' ++ [lab]).length) (c6), .slice (A7) ((fs' ++ [(ls.length : Int)]).length) (c7)]) hF Tryz.sizeOf28 rfl (v := .slice (A7) ((fs' ++ [(ls.length : Int)]).length) (c7)) rfl rfl (by simp [one]) rfl (Nat.le_of_ble_eq_true rfl) rfl ?_
 clear hF; rintro w hF -
 replace hF : FR w0 (Wk2 w0 B pb) ([(b7, .cells #[.int .i64 ((ls.length : Nat))] 3), (b6, .cells #[.string (bs (lab))] 9), (pb, .cells #[.slice (A6) ((ls' ++ [lab]).length) (c6), .slice (A7) ((fs' ++ [(ls.length : Int)]).length) (c7)] 53)] ++ (L_6 ++ (N_7 ++ []))) w := hF
 refine d_nil ?_
 refine e_done (post_end (res_0 rfl) ?_)
 exact ⟨rfl, Tb.made2 (bs_ := [_, _]) (sl := L_6) (sf := N_7) hF hT.lt hT.le hS6_L hS7_N, hF.same⟩
 refine f_new rfl (v := fun b => .slice (some ⟨b, 0, none⟩) 1 1) hF (x_buildSlice (cs := #[.int .i64 ((ls.length : Nat))]) Tryz.underlying28 Tryz.sizeOf3 Tryz.zeroValue3 (by decide) (by decide) (by kernel_rfl)) ?_
 clear hF; rintro b8 w hb8 hF -
 refine ⟨⟨hF.sub (.cons _ (.cons _ (.cons _ (List.nil_sublist _)))), hF.cell 2 rfl rfl⟩, ?_⟩
 refine f_append [(b8, .cells #[.int .i64 ((ls.length : Nat))] 3), (b6, .cells #[.string (bs (lab))] 9), (pb, .cells #[.slice (P1) (ls'.length) (q1), .slice (P2) (fs'.length) (q2)] 53)] (sf ++ []) (news := [.string (bs (lab))]) (len' := (ls' ++ [lab]).length) (ys := SVs (ls' ++ [lab])) rfl el_22 hF hL rfl rfl (rfl) (fun _ => ⟨_, rfl, cells_opt (hF.cellsAll 1 rfl)⟩) (by simp [Value.oneCell']) (by simp only [maxLen]; omega) (by simp) (by simp [SVs]) (by omega) ?_
 clear hF; intro A8 c8 L_8 w hS8_L hF hE hnew
 clear hE hnew
 refine ⟨⟨hF.sub (.cons _ (.cons _ (.cons _ (List.nil_sublist _)))), hF.cell 2 rfl rfl⟩, ?_⟩
 refine f_append ([(b8, .cells #[.int .i64 ((ls.length : Nat))] 3), (b6, .cells #[.string (bs (lab))] 9), (pb, .cells #[.slice (P1) (ls'.length) (q1), .slice (P2) (fs'.length) (q2)] 53)] ++ L_8) [] (news := [.int .i64 ((ls.length : Nat))]) (len' := (fs' ++ [(ls.length : Int)]).length) (ys := IVs (fs' ++ [(ls.length : Int)])) rfl el_28 hF hN rfl rfl (rfl) (fun _ => ⟨_, rfl, cells_opt (hF.cellsAll 0 rfl)⟩) (by simp [Value.oneCell']) (by simp only [maxLen]; omega) (by simp) (by simp [IVs]) (by omega) ?_
 clear hF; intro A9 c9 N_9 w hS9_N hF hE hnew
 clear hE hnew
 refine ⟨⟨hF.sub (.cons _ (.cons _ (.cons _ (List.nil_sublist _)))), hF.cell 2 rfl rfl⟩, ?_⟩
 refine f_free rfl (v := .pointer (some ⟨pb, 0, none⟩)) (fun w hC => x_nilCheck rfl) (f_free rfl (v := .pointer (some ⟨pb, 0, none⟩)) (fun w hC => x_fieldAddrO fa_53_0 rfl) (f_free rfl (v := .pointer (some ⟨pb, 0, none⟩)) (fun w hC => x_fieldAddrO fa_30_0 rfl) ?_))
 refine f_store rfl 2 (l := [.slice (A8) ((ls' ++ [lab]).length) (c8)]) (cs' := #[.slice (A8) ((ls' ++ [lab]).length) (c8), .slice (P2) (fs'.length) (q2)]) hF Tryz.sizeOf22 rfl (v := .slice (A8) ((ls' ++ [lab]).length) (c8)) rfl rfl (by simp [one]) rfl (Nat.le_of_ble_eq_true rfl) rfl ?_
 clear hF; rintro w hF -
 replace hF : FR w0 (Wk2 w0 B pb) ([(b8, .cells #[.int .i64 ((ls.length : Nat))] 3), (b6, .cells #[.string (bs (lab))] 9), (pb, .cells #[.slice (A8) ((ls' ++ [lab]).length) (c8), .slice (P2) (fs'.length) (q2)] 53)] ++ (L_8 ++ (N_9 ++ []))) w := hF
 refine ⟨⟨hF.sub (.cons _ (.cons _ (.cons _ (List.nil_sublist _)))), hF.cell 2 rfl rfl⟩, ?_⟩
 refine f_act rfl (v := .pointer (some ⟨pb, 0, none⟩)) (x_nilCheck rfl) (⟨hF.sub (.cons _ (.cons _ (.cons _ (List.nil_sublist _)))), hF.cell 2 rfl rfl⟩) ?_
 refine f_act rfl (v := .pointer (some ⟨pb, 0, none⟩)) (x_fieldAddrO fa_53_0 rfl) (⟨hF.sub (.cons _ (.cons _ (.cons _ (List.nil_sublist _)))), hF.cell 2 rfl rfl⟩) ?_
 refine f_free rfl (v := .pointer (some ⟨pb, 1, none⟩)) (fun w hC => x_fieldAddrO fa_30_1 rfl) ?_
 refine f_storez rfl 2 (l := [.slice (A9) ((fs' ++ [(ls.length : Int)]).length) (c9)]) (cs' := #[.slice (A8) ((ls' ++ [lab]).length) (c8), .slice (A9) ((fs' ++ [(ls.length : Int)]).length) (c9)]) hF Tryz.sizeOf28 rfl (v := .slice (A9) ((fs' ++ [(ls.length : Int)]).length) (c9)) rfl rfl (by simp [one]) rfl (Nat.le_of_ble_eq_true rfl) rfl ?_
 clear hF; rintro w hF -
 replace hF : FR w0 (Wk2 w0 B pb) ([(b8, .cells #[.int .i64 ((ls.length : Nat))] 3), (b6, .cells #[.string (bs (lab))] 9), (pb, .cells #[.slice (A8) ((ls' ++ [lab]).length) (c8), .slice (A9) ((fs' ++ [(ls.length : Int)]).length) (c9)] 53)] ++ (L_8 ++ (N_9 ++ []))) w := hF
 refine d_nil ?_
 refine e_done (post_end (res_0 rfl) ?_)
 exact ⟨rfl, Tb.made2 (bs_ := [_, _]) (sl := L_8) (sf := N_9) hF hT.lt hT.le hS8_L hS9_N, hF.same⟩
 refine f_new rfl (v := fun b => .slice (some ⟨b, 0, none⟩) 1 1) hF (x_buildSlice (cs := #[.int .i64 ((ls.length : Nat))]) Tryz.underlying28 Tryz.sizeOf3 Tryz.zeroValue3 (by decide) (by decide) (by kernel_rfl)) ?_
 clear hF; rintro b9 w hb9 hF -
 refine ⟨⟨hF.sub (.cons _ (.cons _ (.cons _ (List.nil_sublist _)))), hF.cell 2 rfl rfl⟩, ?_⟩
 refine f_act rfl (v := .slice (P1) (ls'.length) (q1)) (x_load Tryz.isAgg22 rfl (hF.cell 2 rfl rfl)) (⟨hF.sub (.cons _ (.cons _ (.cons _ (List.nil_sublist _)))), hF.cell 2 rfl rfl⟩) ?_
 refine f_append [(b9, .cells #[.int .i64 ((ls.length : Nat))] 3), (b6, .cells #[.string (bs (lab))] 9), (pb, .cells #[.slice (P1) (ls'.length) (q1), .slice (P2) (fs'.length) (q2)] 53)] (sf ++ []) (news := [.string (bs (lab))]) (len' := (ls' ++ [lab]).length) (ys := SVs (ls' ++ [lab])) rfl el_22 hF hL rfl rfl (rfl) (fun _ => ⟨_, rfl, cells_opt (hF.cellsAll 1 rfl)⟩) (by simp [Value.oneCell']) (by simp only [maxLen]; omega) (by simp) (by simp [SVs]) (by omega) ?_
 clear hF; intro A10 c10 L_10 w hS10_L hF hE hnew
 clear hE hnew
 refine ⟨⟨hF.sub (.cons _ (.cons _ (.cons _ (List.nil_sublist _)))), hF.cell 2 rfl rfl⟩, ?_⟩
 refine f_append ([(b9, .cells #[.int .i64 ((ls.length : Nat))] 3), (b6, .cells #[.string (bs (lab))] 9), (pb, .cells #[.slice (P1) (ls'.length) (q1), .slice (P2) (fs'.length) (q2)] 53)] ++ L_10) [] (news := [.int .i64 ((ls.length : Nat))]) (len' := (fs' ++ [(ls.length : Int)]).length) (ys := IVs (fs' ++ [(ls.length : Int)])) rfl el_28 hF hN rfl rfl (rfl) (fun _ => ⟨_, rfl, cells_opt (hF.cellsAll 0 rfl)⟩) (by simp [Value.oneCell']) (by simp only [maxLen]; omega) (by simp) (by simp [IVs]) (by omega) ?_
 clear hF; intro A11 c11 N_11 w hS11_N hF hE hnew
 clear hE hnew
 refine ⟨⟨hF.sub (.cons _ (.cons _ (.cons _ (List.nil_sublist _)))), hF.cell 2 rfl rfl⟩, ?_⟩
 refine f_free rfl (v := .pointer (some ⟨pb, 0, none⟩)) (fun w hC => x_nilCheck rfl) (f_free rfl (v := .pointer (some ⟨pb, 0, none⟩)) (fun w hC => x_fieldAddrO fa_53_0 rfl) (f_free rfl (v := .pointer (some ⟨pb, 0, none⟩)) (fun w hC => x_fieldAddrO fa_30_0 rfl) ?_))
 refine f_store rfl 2 (l := [.slice (A10) ((ls' ++ [lab]).length) (c10)]) (cs' := #[.slice (A10) ((ls' ++ [lab]).length) (c10), .slice (P2) (fs'.length) (q2)]) hF Tryz.sizeOf22 rfl (v := .slice (A10) ((ls' ++ [lab]).length) (c10)) rfl rfl (by simp [one]) rfl (Nat.le_of_ble_eq_true rfl) rfl ?_
 clear hF; rintro w hF -
 replace hF : FR w0 (Wk2 w0 B pb) ([(b9, .cells #[.int .i64 ((ls.length : Nat))] 3), (b6, .cells #[.string (bs (lab))] 9), (pb, .cells #[.slice (A10) ((ls' ++ [lab]).length) (c10), .slice (P2) (fs'.length) (q2)] 53)] ++ (L_10 ++ (N_11 ++ []))) w := hF
 refine ⟨⟨hF.sub (.cons _ (.cons _ (.cons _ (List.nil_sublist _)))), hF.cell 2 rfl rfl⟩, ?_⟩
 refine f_act rfl (v := .pointer (some ⟨pb, 0, none⟩)) (x_nilCheck rfl) (⟨hF.sub (.cons _ (.cons _ (.cons _ (List.nil_sublist _)))), hF.cell 2 rfl rfl⟩) ?_
 refine f_act rfl (v := .pointer (some ⟨pb, 0, none⟩)) (x_fieldAddrO fa_53_0 rfl) (⟨hF.sub (.cons _ (.cons _ (.cons _ (List.nil_sublist _)))), hF.cell 2 rfl rfl⟩) ?_
 refine f_free rfl (v := .pointer (some ⟨pb, 1, none⟩)) (fun w hC => x_fieldAddrO fa_30_1 rfl) ?_
 refine f_storez rfl 2 (l := [.slice (A11) ((fs' ++ [(ls.length : Int)]).length) (c11)]) (cs' := #[.slice (A10) ((ls' ++ [lab]).length) (c10), .slice (A11) ((fs' ++ [(ls.length : Int)]).length) (c11)]) hF Tryz.sizeOf28 rfl (v := .slice (A11) ((fs' ++ [(ls.length : Int)]).length) (c11)) rfl rfl (by simp [one]) rfl (Nat.le_of_ble_eq_true rfl) rfl ?_
 clear hF; rintro w hF -
 replace hF : FR w0 (Wk2 w0 B pb) ([(b9, .cells #[.int .i64 ((ls.length : Nat))] 3), (b6, .cells #[.string (bs (lab))] 9), (pb, .cells #[.slice (A10) ((ls' ++ [lab]).length) (c10), .slice (A11) ((fs' ++ [(ls.length : Int)]).length) (c11)] 53)] ++ (L_10 ++ (N_11 ++ []))) w := hF
 refine d_nil ?_
 refine e_done (post_end (res_0 rfl) ?_)
 exact ⟨rfl, Tb.made2 (bs_ := [_, _]) (sl := L_10) (sf := N_11) hF hT.lt hT.le hS10_L hS11_N, hF.same⟩
 refine f_new rfl (v := fun b => .slice (some ⟨b, 0, none⟩) 1 1) hF (x_buildSlice (cs := #[.int .i64 ((ls.length : Nat))]) Tryz.underlying28 Tryz.sizeOf3 Tryz.zeroValue3 (by decide) (by decide) (by kernel_rfl)) ?_
 clear hF; rintro b10 w hb10 hF -
 refine ⟨⟨hF.sub (.cons _ (.cons _ (List.nil_sublist _))), hF.cell 1 rfl rfl⟩, ?_⟩
 refine d_alt ?_ ?_
 refine f_act rfl (v := .slice (P1) (ls'.length) (q1)) (x_load Tryz.isAgg22 rfl (hF.cell 1 rfl rfl)) (⟨hF.sub (.cons _ (.cons _ (List.nil_sublist _))), hF.cell 1 rfl rfl⟩) ?_
 refine f_new rfl (v := fun b => .slice (some ⟨b, 0, none⟩) 1 1) hF (x_buildSlice (cs := #[.string (bs (lab))]) Tryz.underlying22 Tryz.sizeOf9 Tryz.zeroValue9 (by decide) (by decide) (by kernel_rfl)) ?_
 clear hF; rintro b11 w hb11 hF -
 refine ⟨⟨hF.sub (.cons _ (.cons _ (.cons _ (List.nil_sublist _)))), hF.cell 2 rfl rfl⟩, ?_⟩
 refine f_append [(b11, .cells #[.string (bs (lab))] 9), (b10, .cells #[.int .i64 ((ls.length : Nat))] 3), (pb, .cells #[.slice (P1) (ls'.length) (q1), .slice (P2) (fs'.length) (q2)] 53)] (sf ++ []) (news := [.string (bs (lab))]) (len' := (ls' ++ [lab]).length) (ys := SVs (ls' ++ [lab])) rfl el_22 hF hL rfl rfl (rfl) (fun _ => ⟨_, rfl, cells_opt (hF.cellsAll 0 rfl)⟩) (by simp [Value.oneCell']) (by simp only [maxLen]; omega) (by simp) (by simp [SVs]) (by omega) ?_
 clear hF; intro A12 c12 L_12 w hS12_L hF hE hnew
 clear hE hnew
 refine ⟨⟨hF.sub (.cons _ (.cons _ (.cons _ (List.nil_sublist _)))), hF.cell 2 rfl rfl⟩, ?_⟩
 refine f_append ([(b11, .cells #[.string (bs (lab))] 9), (b10, .cells #[.int .i64 ((ls.length : Nat))] 3), (pb, .cells #[.slice (P1) (ls'.length) (q1), .slice (P2) (fs'.length) (q2)] 53)] ++ L_12) [] (news := [.int .i64 ((ls.length : Nat))]) (len' := (fs' ++ [(ls.length : Int)]).length) (ys := IVs (fs' ++ [(ls.length : Int)])) rfl el_28 hF hN rfl rfl (rfl) (fun _ => ⟨_, rfl, cells_opt (hF.cellsAll 1 rfl)⟩) (by simp [Value.oneCell']) (by simp only [maxLen]; omega) (by simp) (by simp [IVs]) (by omega) ?_
 clear hF; intro A13 c13 N_13 w hS13_N hF hE hnew
 clear hE hnew
 refine ⟨⟨hF.sub (.cons _ (.cons _ (.cons _ (List.nil_sublist _)))), hF.cell 2 rfl rfl⟩, ?_⟩
 refine f_free rfl (v := .pointer (some ⟨pb, 0, none⟩)) (fun w hC => x_nilCheck rfl) (f_free rfl (v := .pointer (some ⟨pb, 0, none⟩)) (fun w hC => x_fieldAddrO fa_53_0 rfl) (f_free rfl (v := .pointer (some ⟨pb, 0, none⟩)) (fun w hC => x_fieldAddrO fa_30_0 rfl) ?_))
 refine f_store rfl 2 (l := [.slice (A12) ((ls' ++ [lab]).length) (c12)]) (cs' := #[.slice (A12) ((ls' ++ [lab]).length) (c12), .slice (P2) (fs'.length) (q2)]) hF Tryz.sizeOf22 rfl (v := .slice (A12) ((ls' ++ [lab]).length) (c12)) rfl rfl (by simp [one]) rfl (Nat.le_of_ble_eq_true rfl) rfl ?_
 clear hF; rintro w hF -
 replace hF : FR w0 (Wk2 w0 B pb) ([(b11, .cells #[.string (bs (lab))] 9), (b10, .cells #[.int .i64 ((ls.length : Nat))] 3), (pb, .cells #[.slice (A12) ((ls' ++ [lab]).length) (c12), .slice (P2) (fs'.length) (q2)] 53)] ++ (L_12 ++ (N_13 ++ []))) w := hF
 refine ⟨⟨hF.sub (.cons _ (.cons _ (.cons _ (List.nil_sublist _)))), hF.cell 2 rfl rfl⟩, ?_⟩
 refine f_act rfl (v := .pointer (some ⟨pb, 0, none⟩)) (x_nilCheck rfl) (⟨hF.sub (.cons _ (.cons _ (.cons _ (List.nil_sublist _)))), hF.cell 2 rfl rfl⟩) ?_
 refine f_act rfl (v := .pointer (some ⟨pb, 0, none⟩)) (x_fieldAddrO fa_53_0 rfl) (⟨hF.sub (.cons _ (.cons _ (.cons _ (List.nil_sublist _)))), hF.cell 2 rfl rfl⟩) ?_
 refine f_free rfl (v := .pointer (some ⟨pb, 1, none⟩)) (fun w hC => x_fieldAddrO fa_30_1 rfl) ?_
 refine f_storez rfl 2 (l := [.slice (A13) ((fs' ++ [(ls.length : Int)]).length) (c13)]) (cs' := #[.slice (A12) ((ls' ++ [lab]).length) (c12), .slice (A13) ((fs' ++ [(ls.length : Int)]).length) (c13)]) hF Tryz.sizeOf28 rfl (v := .slice (A13) ((fs' ++ [(ls.length : Int)]).length) (c13)) rfl rfl (by simp [one]) rfl (Nat.le_of_ble_eq_true rfl) rfl ?_
 clear hF; rintro w hF -
 replace hF : FR w0 (Wk2 w0 B pb) ([(b11, .cells #[.string (bs (lab))] 9), (b10, .cells #[.int .i64 ((ls.length : Nat))] 3), (pb, .cells #[.slice (A12) ((ls' ++ [lab]).length) (c12), .slice (A13) ((fs' ++ [(ls.length : Int)]).length) (c13)] 53)] ++ (L_12 ++ (N_13 ++ []))) w := hF
 refine d_nil ?_
 refine e_done (post_end (res_0 rfl) ?_)
 exact ⟨rfl, Tb.made2 (bs_ := [_, _]) (sl := L_12) (sf := N_13) hF hT.lt hT.le hS12_L hS13_N, hF.same⟩
 refine f_new rfl (v := fun b => .slice (some ⟨b, 0, none⟩) 1 1) hF (x_buildSlice (cs := #[.string (bs (lab))]) Tryz.underlying22 Tryz.sizeOf9 Tryz.zeroValue9 (by decide) (by decide) (by kernel_rfl)) ?_
 clear hF; rintro b12 w hb12 hF -
 refine ⟨⟨hF.sub (.cons _ (.cons _ (.cons _ (List.nil_sublist _)))), hF.cell 2 rfl rfl⟩, ?_⟩
 refine f_act rfl (v := .slice (P1) (ls'.length) (q1)) (x_load Tryz.isAgg22 rfl (hF.cell 2 rfl rfl)) (⟨hF.sub (.cons _ (.cons _ (.cons _ (List.nil_sublist _)))), hF.cell 2 rfl rfl⟩) ?_
 refine f_append [(b12, .cells #[.string (bs (lab))] 9), (b10, .cells #[.int .i64 ((ls.length : Nat))] 3), (pb, .cells #[.slice (P1) (ls'.length) (q1), .slice (P2) (fs'.length) (q2)] 53)] (sf ++ []) (news := [.string (bs (lab))]) (len' := (ls' ++ [lab]).length) (ys := SVs (ls' ++ [lab])) rfl el_22 hF hL rfl rfl (rfl) (fun _ => ⟨_, rfl, cells_opt (hF.cellsAll 0 rfl)⟩) (by simp [Value.oneCell']) (by simp only [maxLen]; omega) (by simp) (by simp [SVs]) (by omega) ?_
 clear hF; intro A14 c14 L_14 w hS14_L hF hE hnew
 clear hE hnew
 refine ⟨⟨hF.sub (.cons _ (.cons _ (.cons _ (List.nil_sublist _)))), hF.cell 2 rfl rfl⟩, ?_⟩
 refine f_append ([(b12, .cells #[.string (bs (lab))] 9), (b10, .cells #[.int .i64 ((ls.length : Nat))] 3), (pb, .cells #[.slice (P1) (ls'.length) (q1), .slice (P2) (fs'.length) (q2)] 53)] ++ L_14) [] (news := [.int .i64 ((ls.length : Nat))]) (len' := (fs' ++ [(ls.length : Int)]).length) (ys := IVs (fs' ++ [(ls.length : Int)])) rfl el_28 hF hN rfl rfl (rfl) (fun _ => ⟨_, rfl, cells_opt (hF.cellsAll 1 rfl)⟩) (by simp [Value.oneCell']) (by simp only [maxLen]; omega) (by simp) (by simp [IVs]) (by omega) ?_
 clear hF; intro A15 c15 N_15 w hS15_N hF hE hnew
 clear hE hnew
 refine ⟨⟨hF.sub (.cons _ (.cons _ (.cons _ (List.nil_sublist _)))), hF.cell 2 rfl rfl⟩, ?_⟩
 refine f_free rfl (v := .pointer (some ⟨pb, 0, none⟩)) (fun w hC => x_nilCheck rfl) (f_free rfl (v := .pointer (some ⟨pb, 0, none⟩)) (fun w hC => x_fieldAddrO fa_53_0 rfl) (f_free rfl (v := .pointer (some ⟨pb, 0, none⟩)) (fun w hC => x_fieldAddrO fa_30_0 rfl) ?_))
 refine f_store rfl 2 (l := [.slice (A14) ((ls' ++ [lab]).length) (c14)]) (cs' := #[.slice (A14) ((ls' ++ [lab]).length) (c14), .slice (P2) (fs'.length) (q2)]) hF Tryz.sizeOf22 rfl (v := .slice (A14) ((ls' ++ [lab]).length) (c14)) rfl rfl (by simp [one]) rfl (Nat.le_of_ble_eq_true rfl) rfl ?_
 clear hF; rintro w hF -
 replace hF : FR w0 (Wk2 w0 B pb) ([(b12, .cells #[.string (bs (lab))] 9), (b10, .cells #[.int .i64 ((ls.length : Nat))] 3), (pb, .cells #[.slice (A14) ((ls' ++ [lab]).length) (c14), .slice (P2) (fs'.length) (q2)] 53)] ++ (L_14 ++ (N_15 ++ []))) w := hF
 refine ⟨⟨hF.sub (.cons _ (.cons _ (.cons _ (List.nil_sublist _)))), hF.cell 2 rfl rfl⟩, ?_⟩
 refine f_act rfl (v := .pointer (some ⟨pb, 0, none⟩)) (x_nilCheck rfl) (⟨hF.sub (.cons _ (.cons _ (.cons _ (List.nil_sublist _)))), hF.cell 2 rfl rfl⟩) ?_
 refine f_act rfl (v := .pointer (some ⟨pb, 0, none⟩)) (x_fieldAddrO fa_53_0 rfl) (⟨hF.sub (.cons _ (.cons _ (.cons _ (List.nil_sublist _)))), hF.cell 2 rfl rfl⟩) ?_
 refine f_free rfl (v := .pointer (some ⟨pb, 1, none⟩)) (fun w hC => x_fieldAddrO fa_30_1 rfl) ?_
 refine f_storez rfl 2 (l := [.slice (A15) ((fs' ++ [(ls.length : Int)]).length) (c15)]) (cs' := #[.slice (A14) ((ls' ++ [lab]).length) (c14), .slice (A15) ((fs' ++ [(ls.length : Int)]).length) (c15)]) hF Tryz.sizeOf28 rfl (v := .slice (A15) ((fs' ++ [(ls.length : Int)]).length) (c15)) rfl rfl (by simp [one]) rfl (Nat.le_of_ble_eq_true rfl) rfl ?_
 clear hF; rintro w hF -
 replace hF : FR w0 (Wk2 w0 B pb) ([(b12, .cells #[.string (bs (lab))] 9), (b10, .cells #[.int .i64 ((ls.length : Nat))] 3), (pb, .cells #[.slice (A14) ((ls' ++ [lab]).length) (c14), .slice (A15) ((fs' ++ [(ls.length : Int)]).length) (c15)] 53)] ++ (L_14 ++ (N_15 ++ []))) w := hF
 refine d_nil ?_
 refine e_done (post_end (res_0 rfl) ?_)
 exact ⟨rfl, Tb.made2 (bs_ := [_, _]) (sl := L_14) (sf := N_15) hF hT.lt hT.le hS14_L hS15_N, hF.same⟩
end Go.Scarf
namespace Go.Scarf
open Go.RowKit Go.Proofs
def NodC (x : Tree) : Prop := ∀ (w0 : World) (B pb : Nat) (ls : List Str) (fs : List Int) (cs : List Value), Tb w0 B pb ls fs → Rep (fun b => b ∉ Wk2 w0 B pb) w0 (treeD x) cs → Gl w0 → 7 ≤ pb → ls.length = fs.length → allT nodeB x = true → sizeT x ≤ 1000000000 → maxL x ≤ 1073741824 → ls.length + (labT x).length ≤ 512 →
  Calls Tryz.prog 27 #[.pointer (some ⟨pb, 0, none⟩), .agg cs.toArray] w0 (Ret fun v w' => v = .tuple #[] ∧ Tb w' B pb (ls ++ labT x) (fs ++ lefT x ls.length) ∧ Same (Wk2 w0 B pb) w0 w')
theorem heap_cells {w : World} {b : Nat} {l : List Value} {T : TypeId} (h : w.heap[b]? = some (.cells l.toArray T)) : ∀ j (hj : j < l.length), w.cell? ((⟨b, 0, none⟩ : Addr).add j) = some l[j] := fun j hj => by
  have e : (⟨b, 0, none⟩ : Addr).add j = ⟨b, j, none⟩ := by unfold Addr.add; split <;> simp_all
  rw [e, cell_of_heap h j]
  simp [hj]
theorem lefTs_length (xs : List Tree) (b : Nat) : (lefTs xs b).length = (labTs xs).length := lefTs_len xs (fun x _ b => lef_len x b) b
theorem lefKs_length (xs : List Tree) (ks : List Str) (b : Nat) : (lefKs xs ks b).length = (labKs xs ks).length := lefKs_len xs ks (fun x _ b => lef_len x b) b
theorem labTs_take : ∀ (xs : List Tree) (j : Nat) (h : j < xs.length), labTs (xs.take (j + 1)) = labTs (xs.take j) ++ labT xs[j]
  | x :: xs, 0, _ => by simp [labTs]
  | x :: xs, j + 1, h => by
    rw [List.take_succ_cons, List.take_succ_cons, labTs, labTs, labTs_take xs j (by simpa using h), List.append_assoc]
    rfl
theorem lefTs_take : ∀ (xs : List Tree) (j : Nat) (h : j < xs.length) (b : Nat), lefTs (xs.take (j + 1)) b = lefTs (xs.take j) b ++ lefT xs[j] (b + (labTs (xs.take j)).length)
  | x :: xs, 0, _, b => by simp [lefTs, labTs]
  | x :: xs, j + 1, h, b => by
    rw [List.take_succ_cons, List.take_succ_cons, lefTs, lefTs, labTs, lefTs_take xs j (by simpa using h), List.append_assoc, List.length_append, Nat.add_assoc]
    rfl
theorem labTs_le_take (xs : List Tree) (j : Nat) : (labTs (xs.take j)).length ≤ (labTs xs).length := by
  induction xs generalizing j with
  | nil => simp
  | cons x xs ih =>
    cases j with
    | zero => simp [labTs]
    | succ j =>
      have := ih j
      rw [List.take_succ_cons, labTs, labTs, List.length_append, List.length_append]; omega
theorem labKs_take : ∀ (xs : List Tree) (ks : List Str) (j : Nat) (h : j < xs.length) (h2 : j < ks.length), labKs (xs.take (j + 1)) ks = labKs (xs.take j) ks ++ (labT xs[j] ++ [keyL ks[j]])
  | x :: xs, k :: ks, 0, _, _ => by simp [labKs]
  | x :: xs, k :: ks, j + 1, h, h2 => by
    rw [List.take_succ_cons, List.take_succ_cons, labKs, labKs, List.tail_cons, labKs_take xs ks j (by simpa using h) (by simpa using h2)]
    simp
  | _ :: _, [], _, _, h2 => by simp at h2
theorem lefKs_take : ∀ (xs : List Tree) (ks : List Str) (j : Nat) (h : j < xs.length) (h2 : j < ks.length) (b : Nat), lefKs (xs.take (j + 1)) ks b = lefKs (xs.take j) ks b ++ (lefT xs[j] (b + (labKs (xs.take j) ks).length) ++ [((b + (labKs (xs.take j) ks).length : Nat) : Int)])
  | x :: xs, k :: ks, 0, _, _, b => by simp [lefKs, labKs]
  | x :: xs, k :: ks, j + 1, h, h2, b => by
    rw [List.take_succ_cons, List.take_succ_cons, lefKs, lefKs, labKs, List.tail_cons, lefKs_take xs ks j (by simpa using h) (by simpa using h2)]
    have e : b + (labT x ++ keyL ((k :: ks).headD []) :: labKs (xs.take j) ks).length = b + (labT x).length + 1 + (labKs (xs.take j) ks).length := by simp; omega
    rw [e]
    simp
  | _ :: _, [], _, _, h2, _ => by simp at h2
theorem labKs_le_take (xs : List Tree) (ks : List Str) (j : Nat) : (labKs (xs.take j) ks).length ≤ (labKs xs ks).length := by
  induction xs generalizing j ks with
  | nil => simp
  | cons x xs ih =>
    cases j with
    | zero => simp [labKs]
    | succ j =>
      have := ih ks.tail j
      rw [List.take_succ_cons, labKs, labKs, List.length_append, List.length_append, List.length_cons, List.length_cons]; omega
theorem cat_keyL (k : Str) : ([107] : Str) ++ compS (.node 4 k [] []) = keyL k := rfl
theorem compS_len (x : Tree) (hm : maxL x ≤ 1073741824) : (compS x).length ≤ 140737488355328 := by
  unfold compS
  split
  · rename_i h; exact right_lim h hm false 0 0 (by omega) (by omega)
  · simp
theorem flatR {S : Nat → Prop} {w : World} {s : Str} (h : s.length ≤ 9223372036854775807) : Rep S w (treeD (.node 4 s [] [])) [.int .i64 4, .string (bs s), .slice none 0 0, .slice none 0 0] :=
  Rep.tree_mk ⟨by omega, by omega⟩ h (Rep.nil_slice 0 (by omega) none) (Rep.nil_slice 0 (by omega) none)
theorem maxL_flat (s : Str) : maxL (.node 4 s [] []) = s.length := by simp [maxL, maxKs, maxLs]
set_option maxHeartbeats 1000000 in
set_option maxRecDepth 10000 in
theorem nnone_c (w0 : World) (B pb : Nat) (ls : List Str) (fs : List Int) (hT : Tb w0 B pb ls fs) : Calls Tryz.prog 49 #[] w0 (Ret fun v w' => v = .tuple #[] ∧ Tb w' B pb (ls) (fs) ∧ Same (Wk2 w0 B pb) w0 w') := by
 refine calls_start Tryz.func49 rfl Tryz.ntmps49 (Nat.le_of_ble_eq_true rfl) (args_0) ?_
 have hB := TW.start hT
 have hF := FR.start w0 (Wk2 w0 B pb)
 refine c_skip ?_
 refine e_done (post_end (res_0 rfl) ?_)
 exact ⟨rfl, hB.tb, hF.same⟩
set_option maxHeartbeats 1000000 in
set_option maxRecDepth 10000 in
theorem nkid_c (x : Tree) (ih : NodC x) (w0 : World) (B pb : Nat) (ls : List Str) (fs : List Int) (hT : Tb w0 B pb ls fs) (hG : Gl w0) (hpN : 7 ≤ pb) (hlf : ls.length = fs.length) (k0 k1 : Nat) (cs : List Value) (h0 : w0.heap[k0]? = some (.cells #[.pointer (some ⟨pb, 0, none⟩)] 75)) (h1 : w0.heap[k1]? = some (.cells cs.toArray 25)) (hR : Rep (fun b => b ∉ Wk2 w0 B pb) w0 (treeD x) cs) (hn : allT nodeB x = true) (hsz : sizeT x ≤ 1000000000) (hm : maxL x ≤ 1073741824) (hlen : ls.length + (labT x).length ≤ 512) : Calls Tryz.prog 48 #[.pointer (some ⟨k0, 0, none⟩), .pointer (some ⟨k1, 0, none⟩)] w0 (Ret fun v w' => v = .tuple #[] ∧ Tb w' B pb (ls ++ labT x) (fs ++ lefT x ls.length) ∧ Same (Wk2 w0 B pb) w0 w') := by
 have hl : cs.length = 4 := hR.length.trans (size_treeD x)
 have ho := hR.one_
 refine calls_start Tryz.func48 rfl Tryz.ntmps48 (Nat.le_of_ble_eq_true rfl) (args_2 _ _) ?_
 have hB := TW.start hT
 have hF := FR.start w0 (Wk2 w0 B pb)
 refine c_region (o_val (v := .pointer (some ⟨pb, 0, none⟩)) (x_load Tryz.isAgg75 rfl (cell_of_heap h0 0)) (o_val (v := .agg (List.toArray cs)) (x_loadS (l := cs) Tryz.isAgg25 Tryz.sizeOf25 rfl hl (heap_cells h1)) ?_))
 refine o_call (ih w0 B pb ls fs cs hT hR hG hpN hlf hn hsz hm hlen) (x_call2 en_27 rfl rfl rfl) ?_
 rintro _ w ⟨rfl, hT2, hE⟩
 replace hF := hF.wrote2 hB hE (by simp)
 replace hB := hB.wrote hT2 hE
 clear hE
 refine o_nil ?_
 refine e_done (post_end (res_0 rfl) ?_)
 exact ⟨rfl, hB.tb, hF.same⟩
set_option maxHeartbeats 4000000 in
set_option maxRecDepth 10000 in
theorem nitems_c (k : Int) (t : Str) (ks : List Str) (xs : List Tree) (A D : Option Addr) (c e : Nat) (w0 : World) (B pb : Nat) (ls : List Str) (fs : List Int) (hT : Tb w0 B pb ls fs) (hG : Gl w0) (hpN : 7 ≤ pb) (hlf : ls.length = fs.length) (ih : ∀ x ∈ xs, NodC x) (hns : ∀ x ∈ xs, allT nodeB x = true) (hsz : sizeTs xs ≤ 1000000000) (hm : maxLs xs ≤ 1073741824) (k0 k1 : Nat) (h0 : w0.heap[k0]? = some (.cells #[.int .i64 (k), .string (bs (t)), .slice (A) (ks.length) (c), .slice (D) (xs.length) (e)] 25)) (hp : w0.heap[k1]? = some (.cells #[.pointer (some ⟨pb, 0, none⟩)] 75)) (hk1 : k1 ≠ pb) (hX0 : Rep (fun b => b ∉ Wk2 w0 B pb) w0 (.slice (treesD xs)) [.slice D xs.length e]) (hlen : ls.length + (labTs xs).length ≤ 512) : Calls Tryz.prog 44 #[.pointer (some ⟨k0, 0, none⟩), .pointer (some ⟨k1, 0, none⟩)] w0 (Ret fun v w' => v = .tuple #[] ∧ Tb w' B pb (ls ++ labTs xs) (fs ++ lefTs xs ls.length) ∧ Same (Wk2 w0 B pb) w0 w') := by
 have hX := hX0.toS0
 have hXl := hX.slice_len
 have hxn := sizeTs_len xs
 refine calls_start Tryz.func44 rfl Tryz.ntmps44 (Nat.le_of_ble_eq_true rfl) (args_2 _ _) ?_
 have hB := TW.start hT
 have hF := FR.start w0 (Wk2 w0 B pb)
 refine c_seq (c_region (o_val (v := .pointer (some ⟨k0, 3, none⟩)) (x_fieldAddrO fa_25_3 rfl) (o_val (v := .slice (D) (xs.length) (e)) (x_load Tryz.isAgg23 rfl (cell_of_heap h0 3)) (o_val (v := .int .i64 ((xs.length : Nat))) (x_len_slice Tryz.underlying23 rfl) (o_val (x_move rfl) (o_nil (e_seq (c_block ?_))))))))
 refine c_loop (fun μ σ w => ∃ (j : Nat), μ = xs.length - j ∧ (j ≤ xs.length) ∧ (TW w0 (Wk2 w0 B pb) w B pb (ls ++ labTs (xs.take j)) (fs ++ lefTs (xs.take j) ls.length)) ∧ (Rep (S0 w0 (Wk2 w0 B pb)) w (.slice (treesD xs)) [.slice D xs.length e]) ∧ (w.heap[k1]? = some (.cells #[.pointer (some ⟨pb, 0, none⟩)] 75)) ∧ AllEq σ [(1, .pointer (some ⟨k1, 0, none⟩)), (5, .slice (D) (xs.length) (e)), (6, .int .i64 ((xs.length : Nat))), (7, .int .i64 ((j : Int)))] ∧ FR w0 (Wk2 w0 B pb) [] w) _ ⟨0, rfl, (Nat.zero_le _), (by simpa [labTs, lefTs] using hB), (hX), (hp), ⟨rfl, rfl, rfl, rfl, trivial⟩, hF⟩ ?_
 clear hF; rintro μ σ w ⟨j, rfl, hj, hB, hX, hp, hs, hF⟩
 refine Cg.slots hs ?_
 clear hs; intro σ
 refine c_seq (c_region (o_val (v := .bool (decide (((j : Int) : Int) < ((xs.length : Nat) : Int)))) (x_lss rfl rfl) (o_nil (e_seq (c_seq ?_)))))
 refine c_splitd (d := 8) (p := ((j : Int) : Int) < ((xs.length : Nat) : Int)) rfl (fun hc0 => ?_) (fun hc0 => ?_)
 refine c_ift rfl (c_skip (e_seq (c_seq (c_block (c_seq (c_region ?_))))))
 obtain ⟨ad0, cs0, hA0, hl0, hk0, hx0⟩ := hX.tree_elem (i := j) (by omega)
 have ho0 := hx0.one_
 have hxe := hx0
 refine o_val (v := .pointer (some (ad0.add (j * 4)))) (x_indexAddrA (i := (j : Int)) sl_23 rfl hA0 rfl (by omega) (by omega)) (o_val (v := .agg (List.toArray cs0)) (x_loadS (l := cs0) Tryz.isAgg25 Tryz.sizeOf25 rfl hl0 hk0) ?_)
 refine o_lay (l := cs0) hF Tryz.zeroValue25 (by rw [hl0]; exact Tryz.sizeOf25) (by rw [hl0]; rfl) (v := .agg (List.toArray cs0)) rfl rfl (ho0) rfl ?_
 clear hF; intro b1 w hb1 hF hE
 have hnb1 : b1 ≠ pb := by have := hB.lt; omega
 replace hB := hB.ext hE
 replace hX := hX.ext hE
 replace hxe := hxe.ext hE
 replace hp := heap_ext hp hE
 clear hE
 refine o_nil (e_seq (c_region (o_val (v := .pointer (some ⟨pb, 0, none⟩)) (x_load Tryz.isAgg75 rfl (cell_of_heap hp 0)) (o_val (v := .agg (List.toArray cs0)) (x_loadS (l := cs0) Tryz.isAgg25 Tryz.sizeOf25 rfl hl0 (hF.cellsAll 0 rfl)) ?_))))
 refine o_call (ih _ (List.getElem_mem (l := xs) (n := j) (by omega)) _ B pb _ _ cs0 hB.tb (hxe.toOff hB) (hG.wrote2 hF.same (by have := hT.lt; omega) hpN) hpN (by rw [List.length_append, List.length_append, lefTs_length]; omega) (hns _ (List.getElem_mem _)) (by have := sizeTs_mem (List.getElem_mem (l := xs) (n := j) (by omega)); omega) (by have := maxLs_mem (List.getElem_mem (l := xs) (n := j) (by omega)); omega) (by have h1 := labTs_le_take xs (j + 1); rw [labTs_take xs j (by omega), List.length_append] at h1; rw [List.length_append]; omega)) (x_call2 en_27 rfl rfl rfl) ?_
 rintro _ w ⟨rfl, hT2, hE⟩
 replace hX := hX.offS hB hE
 replace hp := heap_off hp rfl hk1 hE
 replace hF := hF.wrote2 hB hE (by intro z hz; obtain rfl := List.mem_singleton.1 hz; exact ⟨.inl rfl, by assumption⟩)
 replace hB := hB.wrote hT2 hE
 clear hE
 refine o_nil (e_block (e_seq (c_region (o_val (v := .int .i64 (((j + 1 : Nat) : Int))) (x_add rfl rfl (wrap_to (by omega) (by omega) (by omega))) (o_val (x_move rfl) (o_nil ?_))))))
 refine e_inv ⟨_, ?_, j + 1, rfl, (by omega), (by rw [labTs_take xs j (by omega), lefTs_take xs j (by omega), ← List.append_assoc, ← List.append_assoc, ← List.length_append]; exact hB), (hX), (hp), ⟨rfl, rfl, rfl, rfl, trivial⟩, hF.drop 1⟩
 omega
 refine c_iff rfl ?_
 refine c_exit (e_exit rfl ?_)
 refine e_done (post_end (res_0 rfl) ?_)
 obtain rfl : j = xs.length := by omega
 rw [List.take_length] at hB
 exact ⟨rfl, hB.tb, hF.same⟩
end Go.Scarf
namespace Go.Scarf
open Go.RowKit Go.Proofs
set_option maxHeartbeats 8000000 in
set_option maxRecDepth 10000 in
theorem nkeys_c (k : Int) (t : Str) (ks : List Str) (xs : List Tree) (A D : Option Addr) (c e : Nat) (w0 : World) (B pb : Nat) (ls : List Str) (fs : List Int) (hT : Tb w0 B pb ls fs) (hG : Gl w0) (hpN : 7 ≤ pb) (hlf : ls.length = fs.length) (ih : ∀ x ∈ xs, NodC x) (hns : ∀ x ∈ xs, allT nodeB x = true) (hsz : sizeTs xs ≤ 1000000000) (hm : maxLs xs ≤ 1073741824) (hkx : ks.length = xs.length) (hkm : ∀ s ∈ ks, s.length ≤ 1073741824) (k0 k1 : Nat) (h0 : w0.heap[k0]? = some (.cells #[.int .i64 (k), .string (bs (t)), .slice (A) (ks.length) (c), .slice (D) (xs.length) (e)] 25)) (hp : w0.heap[k1]? = some (.cells #[.pointer (some ⟨pb, 0, none⟩)] 75)) (hne0 : k0 ≠ pb) (hne1 : k1 ≠ pb) (hX0 : Rep (fun b => b ∉ Wk2 w0 B pb) w0 (.slice (treesD xs)) [.slice D xs.length e]) (hK0 : Rep (fun b => b ∉ Wk2 w0 B pb) w0 (strsD ks) [.slice A ks.length c]) (hlen : ls.length + (labKs xs ks).length ≤ 512) : Calls Tryz.prog 45 #[.pointer (some ⟨k0, 0, none⟩), .pointer (some ⟨k1, 0, none⟩)] w0 (Ret fun v w' => v = .tuple #[] ∧ Tb w' B pb (ls ++ labKs xs ks) (fs ++ lefKs xs ks ls.length) ∧ Same (Wk2 w0 B pb) w0 w') := by
 have hX := hX0.toS0
 have hKs := hK0.toS0
 have hXl := hX.slice_len
 have hKl := hKs.slice_len
 have hxn := sizeTs_len xs
 refine calls_start Tryz.func45 rfl Tryz.ntmps45 (Nat.le_of_ble_eq_true rfl) (args_2 _ _) ?_
 have hB := TW.start hT
 have hF := FR.start w0 (Wk2 w0 B pb)
 refine c_seq (c_region (o_val (v := .pointer (some ⟨k0, 3, none⟩)) (x_fieldAddrO fa_25_3 rfl) (o_val (v := .slice (D) (xs.length) (e)) (x_load Tryz.isAgg23 rfl (cell_of_heap h0 3)) (o_val (v := .int .i64 ((xs.length : Nat))) (x_len_slice Tryz.underlying23 rfl) (o_val (x_move rfl) (o_nil (e_seq (c_block ?_))))))))
 refine c_loop (fun μ σ w => ∃ (j : Nat), μ = xs.length - j ∧ (j ≤ xs.length) ∧ (TW w0 (Wk2 w0 B pb) w B pb (ls ++ labKs (xs.take j) ks) (fs ++ lefKs (xs.take j) ks ls.length)) ∧ (Rep (S0 w0 (Wk2 w0 B pb)) w (.slice (treesD xs)) [.slice D xs.length e]) ∧ (Rep (S0 w0 (Wk2 w0 B pb)) w (strsD ks) [.slice A ks.length c]) ∧ (w.heap[k1]? = some (.cells #[.pointer (some ⟨pb, 0, none⟩)] 75)) ∧ (w.heap[k0]? = some (.cells #[.int .i64 (k), .string (bs (t)), .slice (A) (ks.length) (c), .slice (D) (xs.length) (e)] 25)) ∧ AllEq σ [(0, .pointer (some ⟨k0, 0, none⟩)), (1, .pointer (some ⟨k1, 0, none⟩)), (5, .slice (D) (xs.length) (e)), (6, .int .i64 ((xs.length : Nat))), (7, .int .i64 ((j : Int)))] ∧ FR w0 (Wk2 w0 B pb) [] w) _ ⟨0, rfl, (Nat.zero_le _), (by simpa [labKs, lefKs] using hB), (hX), (hKs), (hp), (h0), ⟨rfl, rfl, rfl, rfl, rfl, trivial⟩, hF⟩ ?_
 clear hF; rintro μ σ w ⟨j, rfl, hj, hB, hX, hKs, hp, hv, hs, hF⟩
 refine Cg.slots hs ?_
 clear hs; intro σ
 refine c_seq (c_region (o_val (v := .bool (decide (((j : Int) : Int) < ((xs.length : Nat) : Int)))) (x_lss rfl rfl) (o_nil (e_seq (c_seq ?_)))))
 refine c_splitd (d := 8) (p := ((j : Int) : Int) < ((xs.length : Nat) : Int)) rfl (fun hc0 => ?_) (fun hc0 => ?_)
 refine c_ift rfl (c_skip (e_seq (c_seq (c_block (c_seq (c_region (o_val (x_move rfl) ?_)))))))
 obtain ⟨ad0, cs0, hA0, hl0, hk0, hx0⟩ := hX.tree_elem (i := j) (by omega)
 have ho0 := hx0.one_
 have hxe := hx0
 refine o_val (v := .pointer (some (ad0.add (j * 4)))) (x_indexAddrA (i := (j : Int)) sl_23 rfl hA0 rfl (by omega) (by omega)) (o_val (v := .agg (List.toArray cs0)) (x_loadS (l := cs0) Tryz.isAgg25 Tryz.sizeOf25 rfl hl0 hk0) ?_)
 refine o_alloc (cs := #[.int .i64 (0), .string (bs ([])), .slice (none) (0) (0), .slice (none) (0) (0)]) hF Tryz.zeroValue25 rfl ?_
 clear hF; intro b1 w hb1 hF hE
 have hnb1 : b1 ≠ pb := by have := hB.lt; omega
 have hgb1 : w0.heap.size ≤ b1 := by have := hB.ge; omega
 have hkb1 : k0 ≠ b1 ∧ k1 ≠ b1 := ⟨by have := lt_of_some hv; omega, by have := lt_of_some hp; omega⟩
 have hrb1 : rowAt2 w b1 = false := (rowAt2_of (hF.heap (i := 0) rfl)).trans rfl
 replace hB := hB.ext hE
 replace hX := hX.ext hE
 replace hKs := hKs.ext hE
 replace hxe := hxe.ext hE
 replace hp := heap_ext hp hE
 replace hv := heap_ext hv hE
 clear hE
 refine o_val (x_assign rfl) ?_
 refine o_store 0 (l := cs0) (cs' := (List.toArray cs0)) hF (by rw [hl0]; exact Tryz.sizeOf25) rfl (v := .agg (List.toArray cs0)) rfl rfl (ho0) rfl (by rw [hl0]; exact Nat.le_of_ble_eq_true rfl) (putA_all (by rw [hl0]; rfl)) ?_
 clear hF; intro w hF hE
 replace hB := hB.step hE (by simpa using fun e => hnb1 e.symm) (by intro z hz; obtain rfl := List.mem_singleton.1 hz; exact hrb1) (by intro z hz; obtain rfl := List.mem_singleton.1 hz; exact (rowAt2_of (hF.heap (i := 0) rfl)).trans rfl)
 replace hX := hX.same hE (fun z hz hs => by obtain rfl := List.mem_singleton.1 hz; have := hs.1; omega)
 replace hKs := hKs.same hE (fun z hz hs => by obtain rfl := List.mem_singleton.1 hz; have := hs.1; omega)
 replace hxe := hxe.same hE (fun z hz hs => by obtain rfl := List.mem_singleton.1 hz; have := hs.1; omega)
 replace hp := (hE.block k1 (lt_of_some hp) (by simpa using hkb1.2)).trans hp
 replace hv := (hE.block k0 (lt_of_some hv) (by simpa using hkb1.1)).trans hv
 clear hE
 replace hF : FR w0 (Wk2 w0 B pb) [(b1, .cells (List.toArray cs0) 25)] w := hF
 refine o_nil (e_seq ?_)
 obtain ⟨adk, hAk, -⟩ := hKs.str_elem (i := j) (by omega)
 have hkl := hkm ks[j] (List.getElem_mem _)
 refine c_drawF [] (.free 0 (.free 1 (.free 2 (.free 3 (.free 4 (.free 5 (.free 9 (.act 6 (.act 7 (.free 8 (.act 10 .nil))))))))))) (by kernel_rfl) hF (by kernel_rfl) (by kernel_rfl) ?_
 clear hF; intro w hF hE
 replace hB := hB.ext hE
 replace hX := hX.ext hE
 replace hKs := hKs.ext hE
 replace hxe := hxe.ext hE
 replace hp := heap_ext hp hE
 replace hv := heap_ext hv hE
 clear hE
 refine ⟨fun wq => FR w0 (Wk2 w0 B pb) [(b1, .cells (List.toArray cs0) 25)] wq ∧ wq.heap[k1]? = some (.cells #[.pointer (some ⟨pb, 0, none⟩)] 75) ∧ wq.heap[k0]? = some (.cells #[.int .i64 (k), .string (bs (t)), .slice (A) (ks.length) (c), .slice (D) (xs.length) (e)] 25) ∧ Rep (S0 w0 (Wk2 w0 B pb)) wq (strsD ks) [.slice A ks.length c], ⟨hF, ⟨hp, hv, hKs⟩⟩, ?_⟩
 refine f_free rfl (v := .pointer (some ⟨pb, 0, none⟩)) (fun w hC => x_load Tryz.isAgg75 rfl (cell_of_heap hC.2.1 0)) (f_free rfl (v := .pointer (some ⟨k0, 2, none⟩)) (fun w hC => x_fieldAddrO fa_25_2 rfl) (f_free rfl (v := .slice (A) (ks.length) (c)) (fun w hC => x_load Tryz.isAgg22 rfl (cell_of_heap hC.2.2.1 2)) (f_free rfl (v := .int .i64 ((j : Int))) (fun w hC => x_move rfl) (f_free rfl (v := .pointer (some (adk.add (j * 1)))) (fun w hC => x_indexAddrA (i := ((j : Nat) : Int)) sl_22 rfl hAk rfl (by omega) (by omega)) (f_free rfl (v := .string (bs (ks[j]))) (fun w hC => x_load Tryz.isAgg9 rfl (str_at hC.2.2.2 hAk (by omega))) (f_free rfl (v := .func (.func 48) #[] #[.pointer (some ⟨k1, 0, none⟩), .pointer (some ⟨b1, 0, none⟩)]) (fun w hC => x_makeFunc02 rfl rfl) ?_))))))
 refine f_call rfl (of_c ks[j] _) (x_call1 en_47 rfl rfl) ?_
 rintro _ w ⟨rfl, hE⟩
 replace hF := hF.ext hE
 replace hB := hB.ext hE
 replace hX := hX.ext hE
 replace hKs := hKs.ext hE
 replace hxe := hxe.ext hE
 replace hp := heap_ext hp hE
 replace hv := heap_ext hv hE
 clear hE
 refine ⟨⟨hF, ⟨hp, hv, hKs⟩⟩, ?_⟩
 refine f_call rfl (compT_c (.node 4 ks[j] [] []) (fun _ => True) _ [.int .i64 4, .string (bs ks[j]), .slice none 0 0, .slice none 0 0] (flatR (by omega)) (hG.wrote2 hF.same (by have := hT.lt; omega) hpN) (by simp [sizeT, sizeTs]) (by rw [maxL_flat]; omega)) (x_call1 en_46 rfl rfl) ?_
 rintro _ w ⟨rfl, hE⟩
 replace hF := hF.ext hE
 replace hB := hB.ext hE
 replace hX := hX.ext hE
 replace hKs := hKs.ext hE
 replace hxe := hxe.ext hE
 replace hp := heap_ext hp hE
 replace hv := heap_ext hv hE
 clear hE
 refine ⟨⟨hF, ⟨hp, hv, hKs⟩⟩, ?_⟩
 refine f_free rfl (v := .string (bs (keyL ks[j]))) (fun w hC => by rw [← cat_keyL _]; exact x_cat rfl rfl (by have := compS_len (.node 4 ks[j] [] []) (by rw [maxL_flat]; omega); simp only [List.length_cons, List.length_nil]; omega)) ?_
 have hlb1 := labKs_le_take xs ks (j + 1)
 rw [labKs_take xs ks j (by omega) (by omega), List.length_append, List.length_append, List.length_singleton] at hlb1
 have hlb2 : (ls ++ labKs (xs.take j) ks).length = ls.length + (labKs (xs.take j) ks).length := List.length_append
 refine f_call rfl (add_c w B pb 48 #[.pointer (some ⟨k1, 0, none⟩), .pointer (some ⟨b1, 0, none⟩)] en_48 (ls ++ labKs (xs.take j) ks) _ (fs ++ lefKs (xs.take j) ks ls.length) _ (keyL ks[j]) hB.tb (nkid_c xs[j] (ih _ (List.getElem_mem _)) w B pb (ls ++ labKs (xs.take j) ks) (fs ++ lefKs (xs.take j) ks ls.length) hB.tb (hG.wrote2 hF.same (by have := hT.lt; omega) hpN) hpN (by rw [List.length_append, List.length_append, lefKs_length]; omega) k1 b1 _ hp (hF.heap (i := 0) rfl) (hxe.toOff hB) (hns _ (List.getElem_mem _)) (by have := sizeTs_mem (List.getElem_mem (l := xs) (n := j) (by omega)); omega) (by have := maxLs_mem (List.getElem_mem (l := xs) (n := j) (by omega)); omega) (by omega)) (by rw [List.length_append]; omega) (by rw [List.length_append, lef_len, List.length_append, lefKs_length]; omega)) (x_call3 en_43 rfl rfl rfl rfl) ?_
 rintro _ w ⟨rfl, hT2, hE⟩
 replace hX := hX.offS hB hE
 replace hKs := hKs.offS hB hE
 replace hp := heap_off hp rfl hne1 hE
 replace hv := heap_off hv rfl hne0 hE
 replace hF := hF.wrote2 hB hE (by intro z hz; obtain rfl := List.mem_singleton.1 hz; exact ⟨.inl rfl, by assumption⟩)
 replace hB := hB.wrote hT2 hE
 clear hE
 refine ⟨⟨hF, ⟨hp, hv, hKs⟩⟩, ?_⟩
 refine d_nil (e_block (e_seq (c_region (o_val (v := .int .i64 (((j + 1 : Nat) : Int))) (x_add rfl rfl (wrap_to (by omega) (by omega) (by omega))) (o_val (x_move rfl) (o_nil ?_))))))
 refine e_inv ⟨_, ?_, j + 1, rfl, (by omega), (by rw [labKs_take xs ks j (by omega) (by omega), lefKs_take xs ks j (by omega) (by omega)]; simp only [← List.append_assoc]; rw [show ls.length + (labKs (xs.take j) ks).length = (ls ++ labKs (xs.take j) ks).length from List.length_append.symm]; exact hB), (hX), (hKs), (hp), (hv), ⟨rfl, rfl, rfl, rfl, rfl, trivial⟩, hF.drop 1⟩
 omega
 refine c_iff rfl ?_
 refine c_exit (e_exit rfl ?_)
 refine e_done (post_end (res_0 rfl) ?_)
 obtain rfl : j = xs.length := by omega
 rw [List.take_length] at hB
 exact ⟨rfl, hB.tb, hF.same⟩
end Go.Scarf
