/- A part of the proof. -/
import Derived.Test.YtonoededmmohhaaGreatDoorV2
import Derived.Test.YtonoededmmohhaaGreatDoorY8
import Derived.Test.YtonoededmmohhaaGreatDoorE9
import Derived.Test.YtonoededmmohhaaGreatDoorSp
set_option linter.all false
namespace Go.Scarf
open Go.RowKit Go.Proofs
theorem rowsV2 {S : Nat → Prop} {w : World} {x y : Tree} {cx cy : List Value} (h0 : Rep S w (treeD x) cx) (h1 : Rep S w (treeD y) cy) : RepL S w (treesD [x, y]) (cx ++ cy) := by
  have := RepL.cons_mk h0 (RepL.cons_mk h1 RepL.nil_mk)
  rw [List.append_nil] at this
  simpa [treesD] using this
set_option maxHeartbeats 4000000 in
set_option maxRecDepth 10000 in
theorem keyedTells_w0 (w0 : World) (hG : Gl w0) (x : Tree) (ik : Int) (it : Str) (iA iB : Option Addr) (nk nx ic ie : Nat) (rx : Rep (fun _ => True) w0 (treeD x) [.int .i64 (ik), .string (bs (it)), .slice (iA) (nk) (ic), .slice (iB) (nx) (ie)]) (y : Tree) (jk : Int) (jt : Str) (jA jB : Option Addr) (mk mx_ jc je : Nat) (ry : Rep (fun _ => True) w0 (treeD y) [.int .i64 (jk), .string (bs (jt)), .slice (jA) (mk) (jc), .slice (jB) (mx_) (je)]) (key : Str) (hkey : key.length ≤ 9223372036854775807) (id : Str) (hid : id.length ≤ 9223372036854775807) : Calls Tryz.prog 5 #[.agg #[.int .i64 (ik), .string (bs (it)), .slice (iA) (nk) (ic), .slice (iB) (nx) (ie)], .agg #[.int .i64 (jk), .string (bs (jt)), .slice (jA) (mk) (jc), .slice (jB) (mx_) (je)], .string (bs key), .string (bs id)] w0 (Ret fun v w' => v = .bool true ∧ Same [] w0 w') := by
 refine calls_start Tryz.func5 rfl Tryz.ntmps5 (Nat.le_of_ble_eq_true rfl) (args_4 _ _ _ _) ?_
 have hF := FR.start w0 []
 refine c_seq (c_region ?_)
 refine o_box (v := .agg #[.int .i64 (ik), .string (bs (it)), .slice (iA) (nk) (ic), .slice (iB) (nx) (ie)]) (cs := #[.int .i64 (ik), .string (bs (it)), .slice (iA) (nk) (ic), .slice (iB) (nx) (ie)]) hF rfl rfl ?_
 clear hF; rintro b1 w hb1 hF -
 refine o_box (v := .agg #[.int .i64 (jk), .string (bs (jt)), .slice (jA) (mk) (jc), .slice (jB) (mx_) (je)]) (cs := #[.int .i64 (jk), .string (bs (jt)), .slice (jA) (mk) (jc), .slice (jB) (mx_) (je)]) hF rfl rfl ?_
 clear hF; rintro b2 w hb2 hF -
 refine o_val (x_assign rfl) (o_nil (e_seq (c_seq (c_region ?_))))
 refine o_call (small19_c _ (hG.ext hF.same)) (x_call0 en_6 rfl) ?_
 rintro _ w ⟨rfl, hE⟩
 replace hF := hF.ext hE
 clear hE
 refine o_val (x_assign rfl) (o_nil (e_seq (c_seq (c_region (o_val (v := .agg #[.int .i64 (ik), .string (bs (it)), .slice (iA) (nk) (ic), .slice (iB) (nx) (ie)]) (x_loadS (l := [.int .i64 (ik), .string (bs (it)), .slice (iA) (nk) (ic), .slice (iB) (nx) (ie)]) Tryz.isAgg32 Tryz.sizeOf32 rfl rfl (hF.cellsAll 1 rfl)) ?_)))))
 refine o_call (few_v x 300 (by omega) (by omega) _ _ [.int .i64 (ik), .string (bs (it)), .slice (iA) (nk) (ic), .slice (iB) (nx) (ie)] (hF.rep rx)) (x_call2 en_11 rfl rfl rfl) ?_
 rintro _ w ⟨rfl, hE⟩
 replace hF := hF.ext hE
 clear hE
 refine o_val (x_move rfl) ?_
 refine o_split (d := 23) (b := fewB x 300) rfl (fun hg0 => ?_) (fun hg0 => ?_)
 refine o_val (v := .agg #[.int .i64 (jk), .string (bs (jt)), .slice (jA) (mk) (jc), .slice (jB) (mx_) (je)]) (x_loadS (l := [.int .i64 (jk), .string (bs (jt)), .slice (jA) (mk) (jc), .slice (jB) (mx_) (je)]) Tryz.isAgg32 Tryz.sizeOf32 rfl rfl (hF.cellsAll 0 rfl)) ?_
 refine o_call (few_v y 300 (by omega) (by omega) _ _ [.int .i64 (jk), .string (bs (jt)), .slice (jA) (mk) (jc), .slice (jB) (mx_) (je)] (hF.rep ry)) (x_call2 en_11 rfl rfl rfl) ?_
 rintro _ w ⟨rfl, hE⟩
 replace hF := hF.ext hE
 clear hE
 refine o_val (x_pickt rfl rfl) (o_val (x_assign rfl) (o_nil (e_seq (c_seq (c_seq (c_region (o_val (x_move rfl) (o_val (v := .bool (!(fewB y 300))) (x_not rfl) (o_val (x_move rfl) ?_)))))))))
 refine o_split (d := 29) (b := !(fewB y 300)) rfl (fun hg1 => ?_) (fun hg1 => ?_)
 refine o_off (o_off (o_off (o_val (x_pickt rfl rfl) (o_nil (e_seq (c_ift rfl (c_seq (c_region (o_val (x_move rfl) (o_val (x_assign rfl) (o_nil (e_seq ?_))))))))))))
 refine c_ret (e_ret (post_ret (res_1 (v := .bool true) rfl rfl) ?_))
 exact ⟨rfl, hF.same⟩
 refine o_val (x_move rfl) (o_val (v := .int .i64 ((((key) : Str).length : Int))) (x_len_string Tryz.underlying9 rfl) (o_val (v := .bool (decide ((1024 : Int) < ((((key) : Str).length : Int) : Int)))) (x_gtr rfl rfl) (o_val (x_pickf rfl rfl) (o_nil (e_seq ?_)))))
 refine c_splitd (d := 33) (p := (1024 : Int) < ((((key) : Str).length : Int) : Int)) rfl (fun hc0 => ?_) (fun hc0 => ?_)
 refine c_ift rfl (c_seq (c_region (o_val (x_move rfl) (o_val (x_assign rfl) (o_nil (e_seq ?_))))))
 refine c_ret (e_ret (post_ret (res_1 (v := .bool true) rfl rfl) ?_))
 exact ⟨rfl, hF.same⟩
 refine c_iff rfl (c_skip (e_seq (c_seq (c_region (o_val (v := .agg #[.int .i64 (ik), .string (bs (it)), .slice (iA) (nk) (ic), .slice (iB) (nx) (ie)]) (x_loadS (l := [.int .i64 (ik), .string (bs (it)), .slice (iA) (nk) (ic), .slice (iB) (nx) (ie)]) Tryz.isAgg32 Tryz.sizeOf32 rfl rfl (hF.cellsAll 1 rfl)) ?_)))))
 have fx_ : fewB x 300 = true := by simp_all
 have fy_ : fewB y 300 = true := by simp_all
 obtain ⟨sx, dx, tx⟩ := fewB_ok (by omega) fx_
 obtain ⟨sy, dy, ty⟩ := fewB_ok (by omega) fy_
 have mx := short_max x tx
 have kx := short_ok x tx
 have my := short_max y ty
 have ky := short_ok y ty
 refine o_call (cloneR_c x _ _ [.int .i64 (ik), .string (bs (it)), .slice (iA) (nk) (ic), .slice (iB) (nx) (ie)] (hF.rep rx) (by omega) (by omega)) (x_call1 en_12 rfl rfl) ?_
 rintro _ w ⟨cw, rfl, hRt, hE⟩
 have hlcw : cw.length = 4 := hRt.length.trans (size_treeD _)
 have hocw := hRt.one_
 have hW : Rep (fun b => b < w.heap.size) w (treeD x) cw := hRt.weaken fun b hb _ => hb.2.1
 replace hF := hF.ext hE
 clear hE hRt
 refine o_lay (l := cw) hF Tryz.zeroValue32 (by rw [hlcw]; exact Tryz.sizeOf32) (by rw [hlcw]; rfl) (v := .agg (List.toArray cw)) rfl rfl (hocw) rfl ?_
 clear hF; intro b3 w hb3 hF hE
 replace hW := (hW.ext hE).weaken (fun b hb _ => Nat.lt_of_lt_of_le hb hE.size)
 clear hE
 refine o_nil (e_seq (c_seq (c_region (o_val (v := .agg #[.int .i64 (ik), .string (bs (it)), .slice (iA) (nk) (ic), .slice (iB) (nx) (ie)]) (x_loadS (l := [.int .i64 (ik), .string (bs (it)), .slice (iA) (nk) (ic), .slice (iB) (nx) (ie)]) Tryz.isAgg32 Tryz.sizeOf32 rfl rfl (hF.cellsAll 2 rfl)) (o_val (x_move rfl) ?_)))))
 refine o_call (ids_c x key (by omega) (by omega) _ _ [.int .i64 (ik), .string (bs (it)), .slice (iA) (nk) (ic), .slice (iB) (nx) (ie)] (hF.rep rx) (hG.ext hF.same)) (x_call2 en_13 rfl rfl rfl) ?_
 rintro _ w ⟨A_u, c_u, rfl, hU_, hE⟩
 have hu : Rep (fun _ => True) w (strsD ((idsV x key).getD [])) [.slice A_u ((idsV x key).getD []).length c_u] := hU_.weaken fun _ _ _ => trivial
 replace hW := (hW.ext hE).weaken (fun b hb _ => Nat.lt_of_lt_of_le hb hE.size)
 replace hF := hF.ext hE
 clear hE hU_
 refine o_val (x_move rfl) (o_val (x_extract rfl rfl) (o_val (x_extract rfl rfl) (o_val (x_assign rfl) (o_val (x_assign rfl) (o_nil (e_seq (c_seq (c_region (o_val (v := .agg #[.int .i64 (ik), .string (bs (it)), .slice (iA) (nk) (ic), .slice (iB) (nx) (ie)]) (x_loadS (l := [.int .i64 (ik), .string (bs (it)), .slice (iA) (nk) (ic), .slice (iB) (nx) (ie)]) Tryz.isAgg32 Tryz.sizeOf32 rfl rfl (hF.cellsAll 2 rfl)) (o_val (x_move rfl) ?_))))))))))
 refine o_call (rids_c x key (by omega) (by omega) _ _ [.int .i64 (ik), .string (bs (it)), .slice (iA) (nk) (ic), .slice (iB) (nx) (ie)] (hF.rep rx)) (x_call2 en_14 rfl rfl rfl) ?_
 rintro _ w ⟨A_v, c_v, rfl, hU_, hE⟩
 have hv : Rep (fun _ => True) w (strsD ((idsV x key).getD [])) [.slice A_v ((idsV x key).getD []).length c_v] := hU_.weaken fun _ _ _ => trivial
 replace hW := (hW.ext hE).weaken (fun b hb _ => Nat.lt_of_lt_of_le hb hE.size)
 replace hu := hu.ext hE
 replace hF := hF.ext hE
 clear hE hU_
 refine o_val (x_move rfl) (o_val (x_extract rfl rfl) (o_val (x_extract rfl rfl) (o_val (x_assign rfl) (o_val (x_assign rfl) (o_nil (e_seq (c_seq (c_region (o_val (v := .agg #[.int .i64 (ik), .string (bs (it)), .slice (iA) (nk) (ic), .slice (iB) (nx) (ie)]) (x_loadS (l := [.int .i64 (ik), .string (bs (it)), .slice (iA) (nk) (ic), .slice (iB) (nx) (ie)]) Tryz.isAgg32 Tryz.sizeOf32 rfl rfl (hF.cellsAll 2 rfl)) (o_val (x_move rfl) (o_val (x_move rfl) ?_)))))))))))
 obtain ⟨N1, hN1⟩ : ∃ N, N = w.heap.size := ⟨_, rfl⟩
 have hN0 : w0.heap.size ≤ N1 := by rw [hN1]; exact hF.same.size
 have lb3 : b3 < N1 := by rw [hN1]; exact hF.lt (i := 0) rfl
 have lb2 : b2 < N1 := by rw [hN1]; exact hF.lt (i := 1) rfl
 have lb1 : b1 < N1 := by rw [hN1]; exact hF.lt (i := 2) rfl
 rw [← hN1] at hW
 refine o_call (keyItem_c x key id (by omega) (by omega) _ _ [.int .i64 (ik), .string (bs (it)), .slice (iA) (nk) (ic), .slice (iB) (nx) (ie)] (hF.rep rx) (hG.ext hF.same)) (x_call3 en_15 rfl rfl rfl rfl) ?_
 rintro _ w ⟨c1, rfl, hRt, hE⟩
 have hlc1 : c1.length = 4 := hRt.length.trans (size_treeD _)
 have hoc1 := hRt.one_
 replace hW := hW.ext hE
 replace hu := hu.ext hE
 replace hv := hv.ext hE
 obtain ⟨N2, hN2⟩ : ∃ N, N = w.heap.size := ⟨_, rfl⟩
 have hN2w : N2 ≤ w.heap.size := Nat.le_of_eq hN2
 obtain ⟨S1, hS1a, hS1s, hX3⟩ : ∃ S1 : Nat → Prop, (∀ b, S1 b → N1 ≤ b ∧ b < N2) ∧ (∀ b, S1 b → Soft w b) ∧ Rep S1 w (treeD (itemV x key id).1) c1 := ⟨_, fun b hb => ⟨by rw [hN1]; exact hb.1, by rw [hN2]; exact hb.2.1⟩, fun b hb => hb.2.2, hRt⟩
 replace hF := hF.ext hE
 clear hE hRt
 refine o_val (x_move rfl) (o_val (x_extract rfl rfl) (o_val (x_extract rfl rfl) ?_))
 refine o_lay (l := c1) hF Tryz.zeroValue32 (by rw [hlc1]; exact Tryz.sizeOf32) (by rw [hlc1]; rfl) (v := .agg (List.toArray c1)) rfl rfl (hoc1) rfl ?_
 clear hF; intro b4 w hb4 hF hE
 have gb4 : N2 ≤ b4 := hb4 ▸ hN2w
 replace hN2w := Nat.le_trans hN2w hE.size
 replace hW := hW.ext hE
 replace hu := hu.ext hE
 replace hv := hv.ext hE
 replace hX3 := hX3.ext hE
 replace hS1s : ∀ b, S1 b → Soft w b := fun b hb => soft_same hE (by simp) (hS1s b hb)
 clear hE
 refine o_val (x_assign rfl) (o_nil (e_seq (c_seq (c_region (o_val (v := .agg #[.int .i64 (ik), .string (bs (it)), .slice (iA) (nk) (ic), .slice (iB) (nx) (ie)]) (x_loadS (l := [.int .i64 (ik), .string (bs (it)), .slice (iA) (nk) (ic), .slice (iB) (nx) (ie)]) Tryz.isAgg32 Tryz.sizeOf32 rfl rfl (hF.cellsAll 3 rfl)) (o_val (x_move rfl) (o_val (x_move rfl) ?_)))))))
 refine o_call (rkeyItem_c x key id (by omega) (by omega) (by omega) _ _ [.int .i64 (ik), .string (bs (it)), .slice (iA) (nk) (ic), .slice (iB) (nx) (ie)] (hF.rep rx)) (x_call3 en_16 rfl rfl rfl rfl) ?_
 rintro _ w ⟨c2, rfl, hRt, hE⟩
 have hlc2 : c2.length = 4 := hRt.length.trans (size_treeD _)
 have hoc2 := hRt.one_
 have hY4 : Rep (fun _ => True) w (treeD (itemV x key id).1) c2 := hRt.weaken fun _ _ _ => trivial
 replace hN2w := Nat.le_trans hN2w hE.size
 replace hW := hW.ext hE
 replace hu := hu.ext hE
 replace hv := hv.ext hE
 replace hX3 := hX3.ext hE
 replace hS1s : ∀ b, S1 b → Soft w b := fun b hb => soft_same hE (by simp) (hS1s b hb)
 replace hF := hF.ext hE
 clear hE hRt
 refine o_val (x_move rfl) (o_val (x_extract rfl rfl) (o_val (x_extract rfl rfl) ?_))
 refine o_lay (l := c2) hF Tryz.zeroValue32 (by rw [hlc2]; exact Tryz.sizeOf32) (by rw [hlc2]; rfl) (v := .agg (List.toArray c2)) rfl rfl (hoc2) rfl ?_
 clear hF; intro b5 w hb5 hF hE
 have gb5 : N2 ≤ b5 := hb5 ▸ hN2w
 replace hN2w := Nat.le_trans hN2w hE.size
 replace hW := hW.ext hE
 replace hu := hu.ext hE
 replace hv := hv.ext hE
 replace hX3 := hX3.ext hE
 replace hS1s : ∀ b, S1 b → Soft w b := fun b hb => soft_same hE (by simp) (hS1s b hb)
 replace hY4 := hY4.ext hE
 clear hE
 refine o_val (x_assign rfl) (o_nil (e_seq (c_seq (c_region (o_val (v := .agg (List.toArray c1)) (x_loadS (l := c1) Tryz.isAgg32 Tryz.sizeOf32 rfl hlc1 (hF.cellsAll 1 rfl)) (o_val (v := .agg (List.toArray c2)) (x_loadS (l := c2) Tryz.isAgg32 Tryz.sizeOf32 rfl hlc2 (hF.cellsAll 0 rfl)) ?_))))))
 refine o_call (ret_eq (v' := .bool true) (equal_c (itemV x key id).1 (itemV x key id).1 _ _ _ c1 c2 hX3 hY4) (congrArg Value.bool (eqT_self _))) (x_call2 en_17 rfl rfl rfl) ?_
 rintro _ w ⟨rfl, hE⟩
 replace hF := hF.ext hE
 replace hN2w := Nat.le_trans hN2w hE.size
 replace hW := hW.ext hE
 replace hu := hu.ext hE
 replace hv := hv.ext hE
 replace hX3 := hX3.ext hE
 replace hS1s : ∀ b, S1 b → Soft w b := fun b hb => soft_same hE (by simp) (hS1s b hb)
 replace hY4 := hY4.ext hE
 clear hE
 refine o_val (x_move rfl) (o_val (x_move rfl) (o_val (x_move rfl) ?_))
 refine o_call (ret_eq (v' := .bool true) (same07_c ((idsV x key).getD []) ((idsV x key).getD []) _ _ _ _ _ _ _ hu hv) (congrArg Value.bool (decide_eq_true rfl))) (x_call2 en_8 rfl rfl rfl) ?_
 rintro _ w ⟨rfl, hE⟩
 replace hF := hF.ext hE
 replace hN2w := Nat.le_trans hN2w hE.size
 replace hW := hW.ext hE
 replace hu := hu.ext hE
 replace hv := hv.ext hE
 replace hX3 := hX3.ext hE
 replace hS1s : ∀ b, S1 b → Soft w b := fun b hb => soft_same hE (by simp) (hS1s b hb)
 replace hY4 := hY4.ext hE
 clear hE
 refine o_val (x_pickt rfl rfl) (o_val (x_assign rfl) (o_nil (e_seq (c_seq (c_region (o_val (v := .agg (List.toArray c1)) (x_loadS (l := c1) Tryz.isAgg32 Tryz.sizeOf32 rfl hlc1 (hF.cellsAll 1 rfl)) ?_))))))
 refine o_call (spoil_c (itemV x key id).1 S1 _ c1 hX3 hS1s) (x_call1 en_18 rfl rfl) ?_
 rintro _ w ⟨rfl, hO⟩
 replace hF := hF.touch hO.same (fun b hb => by have h1 := hS1a b (mem_Sb.1 hb).2; refine ⟨fun h => absurd h (by omega), fun p hp => ?_⟩; simp only [List.mem_cons, List.not_mem_nil, or_false] at hp; rcases hp with rfl | rfl | rfl | rfl | rfl <;> (simp only; omega))
 replace hW := hW.same hO.same (fun b hb hlt => by have h1 := (hS1a b (mem_Sb.1 hb).2).1; exact absurd hlt (by show ¬ b < N1; omega))
 clear hO
 refine o_nil (e_seq (c_seq ?_))
 refine c_drawF [] (.free 0 (.free 1 (.free 2 (.free 3 (.free 4 (.free 5 (.free 6 (.free 7 (.free 8 (.free 9 (.free 10 (.free 11 (.free 12 (.free 13 (.free 14 (.free 15 (.free 16 (.free 17 (.free 20 (.free 21 (.free 22 (.alt 18 (.alt 19 (.act 23 (.act 24 (.free 25 (.free 26 (.free 27 (.free 28 (.act 29 (.free 30 (.free 31 (.free 32 (.free 33 (.act 34 (.free 35 (.free 36 .nil)))))))))))))) (.act 23 (.act 19 (.act 24 (.free 25 (.free 26 (.free 27 (.free 28 (.act 29 (.free 30 (.free 31 (.free 32 (.free 33 (.act 34 (.free 35 (.free 36 .nil)))))))))))))))) (.act 23 (.act 18 (.act 19 (.act 24 (.free 25 (.free 26 (.free 27 (.free 28 (.act 29 (.free 30 (.free 31 (.free 32 (.free 33 (.act 34 (.free 35 (.free 36 .nil)))))))))))))))))))))))))))))))))))))) (by kernel_rfl) hF (by kernel_rfl) (by kernel_rfl) ?_
 clear hF; intro w hF hE
 replace hW := hW.ext hE
 clear hE
 refine ⟨fun wq => FR w0 [] [(b5, .cells (List.toArray c2) 32), (b4, .cells (List.toArray c1) 32), (b3, .cells (List.toArray cw) 32), (b2, .cells #[.int .i64 (jk), .string (bs (jt)), .slice (jA) (mk) (jc), .slice (jB) (mx_) (je)] 32), (b1, .cells #[.int .i64 (ik), .string (bs (it)), .slice (iA) (nk) (ic), .slice (iB) (nx) (ie)] 32)] wq, hF, ?_⟩
 refine f_free rfl (v := .bool true) (fun w hC => x_move rfl) (f_free rfl (v := .bool true) (fun w hC => x_move rfl) (f_free rfl (v := .bool true) (fun w hC => x_move rfl) (f_free rfl (v := .bool true) (fun w hC => x_pickt rfl rfl) (f_free rfl (v := .bool true) (fun w hC => x_move rfl) (f_free rfl (v := .bool ((idsV x key).isSome)) (fun w hC => x_move rfl) (f_free rfl (v := .bool ((idsV x key).isSome)) (fun w hC => x_move rfl) (f_free rfl (v := .bool true) (fun w hC => run_boolL (x_eqlb Tryz.underlying4 rfl rfl) (beq_self_eq_true _)) (f_free rfl (v := .bool true) (fun w hC => x_pickt rfl rfl) (f_free rfl (v := .bool true) (fun w hC => x_move rfl) (f_free rfl (v := .bool ((itemV x key id).2)) (fun w hC => x_move rfl) (f_free rfl (v := .bool ((itemV x key id).2)) (fun w hC => x_move rfl) (f_free rfl (v := .bool true) (fun w hC => run_boolL (x_eqlb Tryz.underlying4 rfl rfl) (beq_self_eq_true _)) (f_free rfl (v := .bool true) (fun w hC => x_pickt rfl rfl) ?_)))))))))))))
 refine f_free rfl (v := .bool true) (fun w hC => x_move rfl) (f_free rfl (v := .string (bs (key))) (fun w hC => x_move rfl) (f_free rfl (v := .agg #[.int .i64 (ik), .string (bs (it)), .slice (iA) (nk) (ic), .slice (iB) (nx) (ie)]) (fun w hC => x_loadS (l := [.int .i64 (ik), .string (bs (it)), .slice (iA) (nk) (ic), .slice (iB) (nx) (ie)]) Tryz.isAgg32 Tryz.sizeOf32 rfl rfl (hC.cellsAll 4 rfl)) (f_free rfl (v := .agg #[.int .i64 (jk), .string (bs (jt)), .slice (jA) (mk) (jc), .slice (jB) (mx_) (je)]) (fun w hC => x_loadS (l := [.int .i64 (jk), .string (bs (jt)), .slice (jA) (mk) (jc), .slice (jB) (mx_) (je)]) Tryz.isAgg32 Tryz.sizeOf32 rfl rfl (hC.cellsAll 3 rfl)) (f_free rfl (v := .string (bs (key))) (fun w hC => x_move rfl) (f_free rfl (v := .agg #[.int .i64 (ik), .string (bs (it)), .slice (iA) (nk) (ic), .slice (iB) (nx) (ie)]) (fun w hC => x_loadS (l := [.int .i64 (ik), .string (bs (it)), .slice (iA) (nk) (ic), .slice (iB) (nx) (ie)]) Tryz.isAgg32 Tryz.sizeOf32 rfl rfl (hC.cellsAll 4 rfl)) (f_free rfl (v := .agg #[.int .i64 (jk), .string (bs (jt)), .slice (jA) (mk) (jc), .slice (jB) (mx_) (je)]) (fun w hC => x_loadS (l := [.int .i64 (jk), .string (bs (jt)), .slice (jA) (mk) (jc), .slice (jB) (mx_) (je)]) Tryz.isAgg32 Tryz.sizeOf32 rfl rfl (hC.cellsAll 3 rfl)) ?_))))))
 refine d_alt ?_ ?_
 refine f_new rfl (v := fun b => .slice (some ⟨b, 0, none⟩) 2 2) hF (x_buildSlice (cs := #[.int .i64 (ik), .string (bs (it)), .slice (iA) (nk) (ic), .slice (iB) (nx) (ie), .int .i64 (jk), .string (bs (jt)), .slice (jA) (mk) (jc), .slice (jB) (mx_) (je)]) Tryz.underlying30 Tryz.sizeOf32 Tryz.zeroValue32 (by decide) (by decide) (by kernel_rfl)) ?_
 clear hF; intro b6 w hb6 hF hE
 replace hW := hW.ext hE
 clear hE
 refine ⟨hF.sub (.cons _ (.cons_cons _ (.cons_cons _ (.cons_cons _ (.cons_cons _ (.cons_cons _ .slnil)))))), ?_⟩
 refine d_alt ?_ ?_
 refine f_call rfl (allK_c key [x, y] _ _ _ _ (hF.rowAll (n := 2) 0 rfl (rowsV2 (hF.rep rx) (hF.rep ry)) rfl (by omega) : Rep (fun _ => True) _ (.slice (treesD [x, y])) _) (fun z hz => by simp only [List.mem_cons, List.not_mem_nil, or_false] at hz; rcases hz with rfl | rfl <;> omega) (hG.ext hF.same)) (x_call2 en_19 rfl rfl rfl) ?_
 rintro _ w ⟨rfl, hE⟩
 replace hF := hF.ext hE
 replace hW := hW.ext hE
 clear hE
 refine ⟨hF.sub (.cons _ (.cons_cons _ (.cons_cons _ (.cons_cons _ (.cons_cons _ (.cons_cons _ .slnil)))))), ?_⟩
 refine f_new rfl (v := fun b => .slice (some ⟨b, 0, none⟩) 2 2) hF (x_buildSlice (cs := #[.int .i64 (ik), .string (bs (it)), .slice (iA) (nk) (ic), .slice (iB) (nx) (ie), .int .i64 (jk), .string (bs (jt)), .slice (jA) (mk) (jc), .slice (jB) (mx_) (je)]) Tryz.underlying30 Tryz.sizeOf32 Tryz.zeroValue32 (by decide) (by decide) (by kernel_rfl)) ?_
 clear hF; intro b7 w hb7 hF hE
 replace hW := hW.ext hE
 clear hE
 refine ⟨hF.sub (.cons _ (.cons _ (.cons_cons _ (.cons_cons _ (.cons_cons _ (.cons_cons _ (.cons_cons _ .slnil))))))), ?_⟩
 refine f_call rfl (rallK_c key [x, y] _ _ _ _ (hF.rowAll (n := 2) 0 rfl (rowsV2 (hF.rep rx) (hF.rep ry)) rfl (by omega) : Rep (fun _ => True) _ (.slice (treesD [x, y])) _) (fun z hz => by simp only [List.mem_cons, List.not_mem_nil, or_false] at hz; rcases hz with rfl | rfl <;> omega)) (x_call2 en_20 rfl rfl rfl) ?_
 rintro _ w ⟨rfl, hE⟩
 replace hF := hF.ext hE
 replace hW := hW.ext hE
 clear hE
 refine ⟨hF.sub (.cons _ (.cons _ (.cons_cons _ (.cons_cons _ (.cons_cons _ (.cons_cons _ (.cons_cons _ .slnil))))))), ?_⟩
 refine f_free rfl (v := .bool true) (fun w hC => run_boolL (x_eqlb Tryz.underlying4 rfl rfl) (beq_self_eq_true _)) (f_free rfl (v := .bool true) (fun w hC => x_pickt rfl rfl) (f_free rfl (v := .bool true) (fun w hC => x_move rfl) (f_free rfl (v := .string (bs (key))) (fun w hC => x_move rfl) ?_)))
 refine f_call rfl (ret_eq (v' := .bool true) (allK_c key [] none 0 (fun _ => True) _ (Rep.nil_slice 0 (by omega) none) (by simp) (hG.ext hF.same)) (congrArg Value.bool (rfl))) (x_call2 en_19 rfl rfl rfl) ?_
 rintro _ w ⟨rfl, hE⟩
 replace hF := hF.ext hE
 replace hW := hW.ext hE
 clear hE
 refine ⟨hF.sub (.cons _ (.cons _ (.cons_cons _ (.cons_cons _ (.cons_cons _ (.cons_cons _ (.cons_cons _ .slnil))))))), ?_⟩
 refine f_free rfl (v := .bool true) (fun w hC => x_pickt rfl rfl) (f_free rfl (v := .bool true) (fun w hC => x_move rfl) (f_free rfl (v := .agg #[.int .i64 (ik), .string (bs (it)), .slice (iA) (nk) (ic), .slice (iB) (nx) (ie)]) (fun w hC => x_loadS (l := [.int .i64 (ik), .string (bs (it)), .slice (iA) (nk) (ic), .slice (iB) (nx) (ie)]) Tryz.isAgg32 Tryz.sizeOf32 rfl rfl (hC.cellsAll 4 rfl)) (f_free rfl (v := .agg (List.toArray cw)) (fun w hC => x_loadS (l := cw) Tryz.isAgg32 Tryz.sizeOf32 rfl hlcw (hC.cellsAll 2 rfl)) ?_)))
 refine f_call rfl (ret_eq (v' := .bool true) (equal_c x x _ _ _ [.int .i64 (ik), .string (bs (it)), .slice (iA) (nk) (ic), .slice (iB) (nx) (ie)] cw (hF.rep rx) hW) (congrArg Value.bool (eqT_self _))) (x_call2 en_17 rfl rfl rfl) ?_
 rintro _ w ⟨rfl, hE⟩
 replace hF := hF.ext hE
 replace hW := hW.ext hE
 clear hE
 refine ⟨hF.sub (.cons _ (.cons _ (.cons_cons _ (.cons_cons _ (.cons_cons _ (.cons_cons _ (.cons_cons _ .slnil))))))), ?_⟩
 refine f_free rfl (v := .bool true) (fun w hC => x_pickt rfl rfl) (f_free rfl (v := .bool true) (fun w hC => x_assign rfl) (d_nil (e_seq ?_)))
 refine c_ret (e_ret (post_ret (res_1 (v := .bool true) rfl rfl) ?_))
 exact ⟨rfl, hF.same⟩
 refine f_new rfl (v := fun b => .slice (some ⟨b, 0, none⟩) 2 2) hF (x_buildSlice (cs := #[.int .i64 (ik), .string (bs (it)), .slice (iA) (nk) (ic), .slice (iB) (nx) (ie), .int .i64 (jk), .string (bs (jt)), .slice (jA) (mk) (jc), .slice (jB) (mx_) (je)]) Tryz.underlying30 Tryz.sizeOf32 Tryz.zeroValue32 (by decide) (by decide) (by kernel_rfl)) ?_
 clear hF; intro b8 w hb8 hF hE
 replace hW := hW.ext hE
 clear hE
 refine ⟨hF.sub (.cons _ (.cons _ (.cons_cons _ (.cons_cons _ (.cons_cons _ (.cons_cons _ (.cons_cons _ .slnil))))))), ?_⟩
 refine f_call rfl (allK_c key [x, y] _ _ _ _ (hF.rowAll (n := 2) 1 rfl (rowsV2 (hF.rep rx) (hF.rep ry)) rfl (by omega) : Rep (fun _ => True) _ (.slice (treesD [x, y])) _) (fun z hz => by simp only [List.mem_cons, List.not_mem_nil, or_false] at hz; rcases hz with rfl | rfl <;> omega) (hG.ext hF.same)) (x_call2 en_19 rfl rfl rfl) ?_
 rintro _ w ⟨rfl, hE⟩
 replace hF := hF.ext hE
 replace hW := hW.ext hE
 clear hE
 refine ⟨hF.sub (.cons _ (.cons _ (.cons_cons _ (.cons_cons _ (.cons_cons _ (.cons_cons _ (.cons_cons _ .slnil))))))), ?_⟩
 refine f_call rfl (rallK_c key [x, y] _ _ _ _ (hF.rowAll (n := 2) 0 rfl (rowsV2 (hF.rep rx) (hF.rep ry)) rfl (by omega) : Rep (fun _ => True) _ (.slice (treesD [x, y])) _) (fun z hz => by simp only [List.mem_cons, List.not_mem_nil, or_false] at hz; rcases hz with rfl | rfl <;> omega)) (x_call2 en_20 rfl rfl rfl) ?_
 rintro _ w ⟨rfl, hE⟩
 replace hF := hF.ext hE
 replace hW := hW.ext hE
 clear hE
 refine ⟨hF.sub (.cons _ (.cons _ (.cons_cons _ (.cons_cons _ (.cons_cons _ (.cons_cons _ (.cons_cons _ .slnil))))))), ?_⟩
 refine f_free rfl (v := .bool true) (fun w hC => run_boolL (x_eqlb Tryz.underlying4 rfl rfl) (beq_self_eq_true _)) (f_free rfl (v := .bool true) (fun w hC => x_pickt rfl rfl) (f_free rfl (v := .bool true) (fun w hC => x_move rfl) (f_free rfl (v := .string (bs (key))) (fun w hC => x_move rfl) ?_)))
 refine f_call rfl (ret_eq (v' := .bool true) (allK_c key [] none 0 (fun _ => True) _ (Rep.nil_slice 0 (by omega) none) (by simp) (hG.ext hF.same)) (congrArg Value.bool (rfl))) (x_call2 en_19 rfl rfl rfl) ?_
 rintro _ w ⟨rfl, hE⟩
 replace hF := hF.ext hE
 replace hW := hW.ext hE
 clear hE
 refine ⟨hF.sub (.cons _ (.cons _ (.cons_cons _ (.cons_cons _ (.cons_cons _ (.cons_cons _ (.cons_cons _ .slnil))))))), ?_⟩
 refine f_free rfl (v := .bool true) (fun w hC => x_pickt rfl rfl) (f_free rfl (v := .bool true) (fun w hC => x_move rfl) (f_free rfl (v := .agg #[.int .i64 (ik), .string (bs (it)), .slice (iA) (nk) (ic), .slice (iB) (nx) (ie)]) (fun w hC => x_loadS (l := [.int .i64 (ik), .string (bs (it)), .slice (iA) (nk) (ic), .slice (iB) (nx) (ie)]) Tryz.isAgg32 Tryz.sizeOf32 rfl rfl (hC.cellsAll 4 rfl)) (f_free rfl (v := .agg (List.toArray cw)) (fun w hC => x_loadS (l := cw) Tryz.isAgg32 Tryz.sizeOf32 rfl hlcw (hC.cellsAll 2 rfl)) ?_)))
 refine f_call rfl (ret_eq (v' := .bool true) (equal_c x x _ _ _ [.int .i64 (ik), .string (bs (it)), .slice (iA) (nk) (ic), .slice (iB) (nx) (ie)] cw (hF.rep rx) hW) (congrArg Value.bool (eqT_self _))) (x_call2 en_17 rfl rfl rfl) ?_
 rintro _ w ⟨rfl, hE⟩
 replace hF := hF.ext hE
 replace hW := hW.ext hE
 clear hE
 refine ⟨hF.sub (.cons _ (.cons _ (.cons_cons _ (.cons_cons _ (.cons_cons _ (.cons_cons _ (.cons_cons _ .slnil))))))), ?_⟩
 refine f_free rfl (v := .bool true) (fun w hC => x_pickt rfl rfl) (f_free rfl (v := .bool true) (fun w hC => x_assign rfl) (d_nil (e_seq ?_)))
 refine c_ret (e_ret (post_ret (res_1 (v := .bool true) rfl rfl) ?_))
 exact ⟨rfl, hF.same⟩
 refine f_new rfl (v := fun b => .slice (some ⟨b, 0, none⟩) 2 2) hF (x_buildSlice (cs := #[.int .i64 (ik), .string (bs (it)), .slice (iA) (nk) (ic), .slice (iB) (nx) (ie), .int .i64 (jk), .string (bs (jt)), .slice (jA) (mk) (jc), .slice (jB) (mx_) (je)]) Tryz.underlying30 Tryz.sizeOf32 Tryz.zeroValue32 (by decide) (by decide) (by kernel_rfl)) ?_
 clear hF; intro b9 w hb9 hF hE
 replace hW := hW.ext hE
 clear hE
 refine ⟨hF.sub (.cons _ (.cons_cons _ (.cons_cons _ (.cons_cons _ (.cons_cons _ (.cons_cons _ .slnil)))))), ?_⟩
 refine f_new rfl (v := fun b => .slice (some ⟨b, 0, none⟩) 2 2) hF (x_buildSlice (cs := #[.int .i64 (ik), .string (bs (it)), .slice (iA) (nk) (ic), .slice (iB) (nx) (ie), .int .i64 (jk), .string (bs (jt)), .slice (jA) (mk) (jc), .slice (jB) (mx_) (je)]) Tryz.underlying30 Tryz.sizeOf32 Tryz.zeroValue32 (by decide) (by decide) (by kernel_rfl)) ?_
 clear hF; intro b10 w hb10 hF hE
 replace hW := hW.ext hE
 clear hE
 refine ⟨hF.sub (.cons _ (.cons _ (.cons_cons _ (.cons_cons _ (.cons_cons _ (.cons_cons _ (.cons_cons _ .slnil))))))), ?_⟩
 refine f_call rfl (allK_c key [x, y] _ _ _ _ (hF.rowAll (n := 2) 0 rfl (rowsV2 (hF.rep rx) (hF.rep ry)) rfl (by omega) : Rep (fun _ => True) _ (.slice (treesD [x, y])) _) (fun z hz => by simp only [List.mem_cons, List.not_mem_nil, or_false] at hz; rcases hz with rfl | rfl <;> omega) (hG.ext hF.same)) (x_call2 en_19 rfl rfl rfl) ?_
 rintro _ w ⟨rfl, hE⟩
 replace hF := hF.ext hE
 replace hW := hW.ext hE
 clear hE
 refine ⟨hF.sub (.cons _ (.cons _ (.cons_cons _ (.cons_cons _ (.cons_cons _ (.cons_cons _ (.cons_cons _ .slnil))))))), ?_⟩
 refine f_call rfl (rallK_c key [x, y] _ _ _ _ (hF.rowAll (n := 2) 1 rfl (rowsV2 (hF.rep rx) (hF.rep ry)) rfl (by omega) : Rep (fun _ => True) _ (.slice (treesD [x, y])) _) (fun z hz => by simp only [List.mem_cons, List.not_mem_nil, or_false] at hz; rcases hz with rfl | rfl <;> omega)) (x_call2 en_20 rfl rfl rfl) ?_
 rintro _ w ⟨rfl, hE⟩
 replace hF := hF.ext hE
 replace hW := hW.ext hE
 clear hE
 refine ⟨hF.sub (.cons _ (.cons _ (.cons_cons _ (.cons_cons _ (.cons_cons _ (.cons_cons _ (.cons_cons _ .slnil))))))), ?_⟩
 refine f_free rfl (v := .bool true) (fun w hC => run_boolL (x_eqlb Tryz.underlying4 rfl rfl) (beq_self_eq_true _)) (f_free rfl (v := .bool true) (fun w hC => x_pickt rfl rfl) (f_free rfl (v := .bool true) (fun w hC => x_move rfl) (f_free rfl (v := .string (bs (key))) (fun w hC => x_move rfl) ?_)))
 refine f_call rfl (ret_eq (v' := .bool true) (allK_c key [] none 0 (fun _ => True) _ (Rep.nil_slice 0 (by omega) none) (by simp) (hG.ext hF.same)) (congrArg Value.bool (rfl))) (x_call2 en_19 rfl rfl rfl) ?_
 rintro _ w ⟨rfl, hE⟩
 replace hF := hF.ext hE
 replace hW := hW.ext hE
 clear hE
 refine ⟨hF.sub (.cons _ (.cons _ (.cons_cons _ (.cons_cons _ (.cons_cons _ (.cons_cons _ (.cons_cons _ .slnil))))))), ?_⟩
 refine f_free rfl (v := .bool true) (fun w hC => x_pickt rfl rfl) (f_free rfl (v := .bool true) (fun w hC => x_move rfl) (f_free rfl (v := .agg #[.int .i64 (ik), .string (bs (it)), .slice (iA) (nk) (ic), .slice (iB) (nx) (ie)]) (fun w hC => x_loadS (l := [.int .i64 (ik), .string (bs (it)), .slice (iA) (nk) (ic), .slice (iB) (nx) (ie)]) Tryz.isAgg32 Tryz.sizeOf32 rfl rfl (hC.cellsAll 4 rfl)) (f_free rfl (v := .agg (List.toArray cw)) (fun w hC => x_loadS (l := cw) Tryz.isAgg32 Tryz.sizeOf32 rfl hlcw (hC.cellsAll 2 rfl)) ?_)))
 refine f_call rfl (ret_eq (v' := .bool true) (equal_c x x _ _ _ [.int .i64 (ik), .string (bs (it)), .slice (iA) (nk) (ic), .slice (iB) (nx) (ie)] cw (hF.rep rx) hW) (congrArg Value.bool (eqT_self _))) (x_call2 en_17 rfl rfl rfl) ?_
 rintro _ w ⟨rfl, hE⟩
 replace hF := hF.ext hE
 replace hW := hW.ext hE
 clear hE
 refine ⟨hF.sub (.cons _ (.cons _ (.cons_cons _ (.cons_cons _ (.cons_cons _ (.cons_cons _ (.cons_cons _ .slnil))))))), ?_⟩
 refine f_free rfl (v := .bool true) (fun w hC => x_pickt rfl rfl) (f_free rfl (v := .bool true) (fun w hC => x_assign rfl) (d_nil (e_seq ?_)))
 refine c_ret (e_ret (post_ret (res_1 (v := .bool true) rfl rfl) ?_))
 exact ⟨rfl, hF.same⟩
 refine o_off (o_off (o_val (x_pickf rfl rfl) (o_val (x_assign rfl) (o_nil (e_seq (c_seq (c_seq (c_region (o_val (x_move rfl) (o_val (v := .bool true) (x_not (b := false) rfl) (o_val (x_move rfl) (o_off (o_off ?_)))))))))))))
 refine o_off (o_val (x_pickt rfl rfl) (o_nil (e_seq (c_ift rfl (c_seq (c_region (o_val (x_move rfl) (o_val (x_assign rfl) (o_nil (e_seq ?_))))))))))
 refine c_ret (e_ret (post_ret (res_1 (v := .bool true) rfl rfl) ?_))
 exact ⟨rfl, hF.same⟩
theorem keyedTells_w (w0 : World) (hG : Gl w0) (x : Tree) (cx : List Value) (rx : Rep (fun _ => True) w0 (treeD x) cx) (y : Tree) (cy : List Value) (ry : Rep (fun _ => True) w0 (treeD y) cy) (key : Str) (hkey : key.length ≤ 9223372036854775807) (id : Str) (hid : id.length ≤ 9223372036854775807) : Calls Tryz.prog 5 #[.agg cx.toArray, .agg cy.toArray, .string (bs key), .string (bs id)] w0 (Ret fun v w' => v = .bool true ∧ Same [] w0 w') := by
  obtain ⟨k, t, ks, xs⟩ := x
  obtain ⟨k2, t2, ks2, xs2⟩ := y
  have rx0 := rx
  have ry0 := ry
  obtain ⟨A, c, B, e, rfl, -⟩ := rx0.tree_inv
  obtain ⟨A2, c2, B2, e2, rfl, -⟩ := ry0.tree_inv
  exact keyedTells_w0 w0 hG _ _ _ _ _ _ _ _ _ rx _ _ _ _ _ _ _ _ _ ry key hkey id hid
end Go.Scarf
