/- A part of the proof. -/
import Derived.Test.YtehmojdjpmliaaaGreatDoorSp
import Derived.Test.YtehmojdjpmliaaaGreatDoorE9
import Derived.Test.YtehmojdjpmliaaaGreatDoorE12
import Derived.Test.YtehmojdjpmliaaaGreatDoorV4
set_option linter.all false
namespace Go.Scarf
open Go.RowKit Go.Proofs
set_option maxHeartbeats 4000000 in
set_option maxRecDepth 10000 in
theorem valueStands_w (w0 : World) (hG : Gl w0) (x : Tree) (cx : List Value) (rx : Rep (fun _ => True) w0 (treeD x) cx) (y : Tree) (cy : List Value) (ry : Rep (fun _ => True) w0 (treeD y) cy) : Calls Tryz.prog 10 #[.agg cx.toArray, .agg cy.toArray] w0 (Ret fun v w' => v = .bool true ∧ Same [] w0 w') := by
 have hlcx : cx.length = 4 := rx.length.trans (size_treeD x)
 have hocx := rx.one_
 have hlcy : cy.length = 4 := ry.length.trans (size_treeD y)
 have hocy := ry.one_
 refine calls_start Tryz.func10 rfl Tryz.ntmps10 (Nat.le_of_ble_eq_true rfl) (args_2 _ _) ?_
 have hF := FR.start w0 []
 refine c_seq (c_region ?_)
 refine o_box (v := .agg (List.toArray cx)) (cs := (List.toArray cx)) hF rfl rfl ?_
 clear hF; rintro b1 w hb1 hF -
 refine o_box (v := .agg (List.toArray cy)) (cs := (List.toArray cy)) hF rfl rfl ?_
 clear hF; rintro b2 w hb2 hF -
 refine o_val (v := .bool false) (x_assign rfl) (o_nil (e_seq (c_seq (c_region ?_))))
 refine o_call (small_c _ (hG.ext hF.same)) (x_call0 en_27 rfl) ?_
 rintro _ w ⟨rfl, hE⟩
 replace hF := hF.ext hE
 clear hE
 refine o_val (v := .bool true) (x_assign rfl) (o_nil (e_seq (c_seq (c_region (o_val (v := .agg (List.toArray cx)) (x_loadS (l := cx) Tryz.isAgg25 Tryz.sizeOf25 rfl hlcx (hF.cellsAll 1 rfl)) ?_)))))
 refine o_call (few_v x 300 (by omega) (by omega) _ _ cx (hF.rep rx)) (x_call2 en_14 rfl rfl rfl) ?_
 rintro _ w ⟨rfl, hE⟩
 replace hF := hF.ext hE
 clear hE
 refine o_val (v := .bool (fewB x 300)) (x_move rfl) ?_
 refine o_split (d := 14) (b := fewB x 300) rfl (fun hg0 => ?_) (fun hg0 => ?_)
 refine o_val (v := .agg (List.toArray cy)) (x_loadS (l := cy) Tryz.isAgg25 Tryz.sizeOf25 rfl hlcy (hF.cellsAll 0 rfl)) ?_
 refine o_call (few_v y 300 (by omega) (by omega) _ _ cy (hF.rep ry)) (x_call2 en_14 rfl rfl rfl) ?_
 rintro _ w ⟨rfl, hE⟩
 replace hF := hF.ext hE
 clear hE
 refine o_val (v := .bool (fewB y 300)) (x_pickt rfl rfl) (o_val (v := .bool (fewB y 300)) (x_assign rfl) (o_nil (e_seq (c_seq (c_seq (c_region (o_val (v := .bool (fewB y 300)) (x_move rfl) (o_val (v := .bool (!(fewB y 300))) (x_not rfl) (o_nil (e_seq ?_))))))))))
 refine c_split (d := 19) (b := !(fewB y 300)) rfl (fun hc0 => ?_) (fun hc0 => ?_)
 refine c_ift rfl (c_seq (c_region (o_val (v := .bool true) (x_move rfl) (o_val (v := .bool true) (x_assign rfl) (o_nil (e_seq ?_))))))
 refine c_ret (e_ret (post_ret (res_1 (v := .bool true) rfl rfl) ?_))
 exact ⟨rfl, hF.same⟩
 refine c_iff rfl (c_skip (e_seq (c_seq (c_region ?_))))
 have fx_ : fewB x 300 = true := by simp_all
 have fy_ : fewB y 300 = true := by simp_all
 obtain ⟨sx, dx, tx⟩ := fewB_ok (by omega) fx_
 obtain ⟨sy, dy, ty⟩ := fewB_ok (by omega) fy_
 have mx := short_max x tx
 have kx := short_ok x tx
 have my := short_max y ty
 have ky := short_ok y ty
 refine o_val (v := .agg (List.toArray cx)) (x_loadS (l := cx) Tryz.isAgg25 Tryz.sizeOf25 rfl hlcx (hF.cellsAll 1 rfl)) ?_
 refine o_call (cloneR_c x _ _ cx (hF.rep rx) (by omega) (by omega)) (x_call1 en_15 rfl rfl) ?_
 rintro _ w ⟨cw, rfl, hRt, hE⟩
 have hlcw : cw.length = 4 := hRt.length.trans (size_treeD _)
 have hocw := hRt.one_
 have hW : Rep (fun b => b < w.heap.size) w (treeD x) cw := hRt.weaken fun b hb _ => hb.2.1
 replace hF := hF.ext hE
 clear hE hRt
 refine o_lay (l := cw) hF Tryz.zeroValue25 (by rw [hlcw]; exact Tryz.sizeOf25) (by rw [hlcw]; rfl) (v := .agg (List.toArray cw)) rfl rfl (hocw) rfl ?_
 clear hF; intro b3 w hb3 hF hE
 replace hW := (hW.ext hE).weaken (fun b hb _ => Nat.lt_of_lt_of_le hb hE.size)
 clear hE
 refine o_nil (e_seq (c_seq (c_region (o_val (v := .agg (List.toArray cx)) (x_loadS (l := cx) Tryz.isAgg25 Tryz.sizeOf25 rfl hlcx (hF.cellsAll 2 rfl)) ?_))))
 obtain ⟨N1, hN1⟩ : ∃ N, N = w.heap.size := ⟨_, rfl⟩
 have hN0 : w0.heap.size ≤ N1 := by rw [hN1]; exact hF.same.size
 have lb3_N1 : b3 < N1 := by rw [hN1]; exact hF.lt (i := 0) rfl
 have lb2_N1 : b2 < N1 := by rw [hN1]; exact hF.lt (i := 1) rfl
 have lb1_N1 : b1 < N1 := by rw [hN1]; exact hF.lt (i := 2) rfl
 rw [← hN1] at hW
 refine o_call (sortedV_c x (by omega) _ _ cx (hF.rep rx) kx (hG.ext hF.same)) (x_call1 en_26 rfl rfl) ?_
 rintro _ w ⟨c1, rfl, hRt, hE⟩
 have hlc1 : c1.length = 4 := hRt.length.trans (size_treeD _)
 have hoc1 := hRt.one_
 replace hW := hW.ext hE
 obtain ⟨N2, hN2⟩ : ∃ N, N = w.heap.size := ⟨_, rfl⟩
 have hN2w : N2 ≤ w.heap.size := Nat.le_of_eq hN2
 have hN12 : N1 ≤ N2 := by rw [hN1, hN2]; exact hE.size
 obtain ⟨S1, hS1a, hS1s, hX1⟩ : ∃ S1 : Nat → Prop, (∀ b, S1 b → N1 ≤ b ∧ b < N2) ∧ (∀ b, S1 b → Soft w b) ∧ Rep S1 w (treeD (sortedV x)) c1 := ⟨_, fun b hb => ⟨by rw [hN1]; exact hb.1, by rw [hN2]; exact hb.2.1⟩, fun b hb => hb.2.2, hRt⟩
 replace hF := hF.ext hE
 clear hE hRt
 refine o_lay (l := c1) hF Tryz.zeroValue25 (by rw [hlc1]; exact Tryz.sizeOf25) (by rw [hlc1]; rfl) (v := .agg (List.toArray c1)) rfl rfl (hoc1) rfl ?_
 clear hF; intro b4 w hb4 hF hE
 have gb4 : N2 ≤ b4 := hb4 ▸ hN2w
 replace hN2w := Nat.le_trans hN2w hE.size
 replace hW := hW.ext hE
 replace hX1 := hX1.ext hE
 replace hS1s : ∀ b, S1 b → Soft w b := fun b hb => soft_same hE (by simp) (hS1s b hb)
 clear hE
 refine o_nil (e_seq (c_seq (c_region (o_val (v := .agg (List.toArray cx)) (x_loadS (l := cx) Tryz.isAgg25 Tryz.sizeOf25 rfl hlcx (hF.cellsAll 3 rfl)) ?_))))
 obtain ⟨N3, hN3⟩ : ∃ N, N = w.heap.size := ⟨_, rfl⟩
 have hN23 : N2 ≤ N3 := by rw [hN3]; exact hN2w
 have lb4_N3 : b4 < N3 := by rw [hN3]; exact hF.lt (i := 0) rfl
 have lb3_N3 : b3 < N3 := by rw [hN3]; exact hF.lt (i := 1) rfl
 have lb2_N3 : b2 < N3 := by rw [hN3]; exact hF.lt (i := 2) rfl
 have lb1_N3 : b1 < N3 := by rw [hN3]; exact hF.lt (i := 3) rfl
 refine o_call (copyV_c x (by omega) _ _ cx (hF.rep rx) kx (hG.ext hF.same)) (x_call1 en_44 rfl rfl) ?_
 rintro _ w ⟨c2, rfl, hRt, hE⟩
 have hlc2 : c2.length = 4 := hRt.length.trans (size_treeD _)
 have hoc2 := hRt.one_
 replace hN2w := Nat.le_trans hN2w hE.size
 replace hW := hW.ext hE
 replace hX1 := hX1.ext hE
 replace hS1s : ∀ b, S1 b → Soft w b := fun b hb => soft_same hE (by simp) (hS1s b hb)
 obtain ⟨N4, hN4⟩ : ∃ N, N = w.heap.size := ⟨_, rfl⟩
 have hN4w : N4 ≤ w.heap.size := Nat.le_of_eq hN4
 obtain ⟨S2, hS2a, hS2s, hX2⟩ : ∃ S2 : Nat → Prop, (∀ b, S2 b → N3 ≤ b ∧ b < N4) ∧ (∀ b, S2 b → Soft w b) ∧ Rep S2 w (treeD (copyV x)) c2 := ⟨_, fun b hb => ⟨by rw [hN3]; exact hb.1, by rw [hN4]; exact hb.2.1⟩, fun b hb => hb.2.2, hRt⟩
 replace hF := hF.ext hE
 clear hE hRt
 refine o_lay (l := c2) hF Tryz.zeroValue25 (by rw [hlc2]; exact Tryz.sizeOf25) (by rw [hlc2]; rfl) (v := .agg (List.toArray c2)) rfl rfl (hoc2) rfl ?_
 clear hF; intro b5 w hb5 hF hE
 have kb5 : N4 ≤ b5 := hb5 ▸ hN4w
 replace hN4w := Nat.le_trans hN4w hE.size
 replace hW := hW.ext hE
 replace hX1 := hX1.ext hE
 replace hS1s : ∀ b, S1 b → Soft w b := fun b hb => soft_same hE (by simp) (hS1s b hb)
 replace hX2 := hX2.ext hE
 replace hS2s : ∀ b, S2 b → Soft w b := fun b hb => soft_same hE (by simp) (hS2s b hb)
 clear hE
 refine o_nil (e_seq (c_seq ?_))
 refine c_drawF [] (.free 0 (.free 1 (.act 2 (.act 3 (.free 4 (.free 5 (.free 6 (.act 7 (.act 8 (.free 9 (.free 10 .nil))))))))))) (by kernel_rfl) hF (by kernel_rfl) (by kernel_rfl) ?_
 clear hF; intro w hF hE
 replace hN4w := Nat.le_trans hN4w hE.size
 replace hW := hW.ext hE
 replace hX1 := hX1.ext hE
 replace hS1s : ∀ b, S1 b → Soft w b := fun b hb => soft_same hE (by simp) (hS1s b hb)
 replace hX2 := hX2.ext hE
 replace hS2s : ∀ b, S2 b → Soft w b := fun b hb => soft_same hE (by simp) (hS2s b hb)
 clear hE
 refine ⟨fun wq => FR w0 [] [(b5, .cells (List.toArray c2) 25), (b4, .cells (List.toArray c1) 25), (b3, .cells (List.toArray cw) 25), (b2, .cells (List.toArray cy) 25), (b1, .cells (List.toArray cx) 25)] wq, hF, ?_⟩
 refine f_free rfl (v := .agg (List.toArray c1)) (fun w hC => x_loadS (l := c1) Tryz.isAgg25 Tryz.sizeOf25 rfl hlc1 (hC.cellsAll 1 rfl)) (f_free rfl (v := .agg (List.toArray cx)) (fun w hC => x_loadS (l := cx) Tryz.isAgg25 Tryz.sizeOf25 rfl hlcx (hC.cellsAll 4 rfl)) ?_)
 refine f_call rfl (rsortedV_c x (by omega) (by omega) _ _ cx (hF.rep rx)) (x_call1 en_45 rfl rfl) ?_
 rintro _ w ⟨c3, rfl, hRt, hE⟩
 have hlc3 : c3.length = 4 := hRt.length.trans (size_treeD _)
 have hoc3 := hRt.one_
 have hY3 : Rep (fun _ => True) w (treeD (sortedV x)) c3 := hRt.weaken fun _ _ _ => trivial
 replace hN4w := Nat.le_trans hN4w hE.size
 replace hW := hW.ext hE
 replace hX1 := hX1.ext hE
 replace hS1s : ∀ b, S1 b → Soft w b := fun b hb => soft_same hE (by simp) (hS1s b hb)
 replace hX2 := hX2.ext hE
 replace hS2s : ∀ b, S2 b → Soft w b := fun b hb => soft_same hE (by simp) (hS2s b hb)
 replace hF := hF.ext hE
 clear hE hRt
 refine ⟨hF, ?_⟩
 refine f_call rfl (ret_eq (v' := .bool true) (equal_c (sortedV x) (sortedV x) _ _ _ c1 c3 hX1 hY3) (congrArg Value.bool (eqT_self _))) (x_call2 en_22 rfl rfl rfl) ?_
 rintro _ w ⟨rfl, hE⟩
 replace hF := hF.ext hE
 replace hN4w := Nat.le_trans hN4w hE.size
 replace hW := hW.ext hE
 replace hX1 := hX1.ext hE
 replace hS1s : ∀ b, S1 b → Soft w b := fun b hb => soft_same hE (by simp) (hS1s b hb)
 replace hX2 := hX2.ext hE
 replace hS2s : ∀ b, S2 b → Soft w b := fun b hb => soft_same hE (by simp) (hS2s b hb)
 replace hY3 := hY3.ext hE
 clear hE
 refine ⟨hF, ?_⟩
 refine f_free rfl (v := .bool true) (fun w hC => x_move rfl) (f_free rfl (v := .agg (List.toArray c2)) (fun w hC => x_loadS (l := c2) Tryz.isAgg25 Tryz.sizeOf25 rfl hlc2 (hC.cellsAll 0 rfl)) (f_free rfl (v := .agg (List.toArray cx)) (fun w hC => x_loadS (l := cx) Tryz.isAgg25 Tryz.sizeOf25 rfl hlcx (hC.cellsAll 4 rfl)) ?_))
 refine f_call rfl (rcopyV_c x (by omega) (by omega) _ _ cx (hF.rep rx)) (x_call1 en_46 rfl rfl) ?_
 rintro _ w ⟨c4, rfl, hRt, hE⟩
 have hlc4 : c4.length = 4 := hRt.length.trans (size_treeD _)
 have hoc4 := hRt.one_
 have hY4 : Rep (fun _ => True) w (treeD (copyV x)) c4 := hRt.weaken fun _ _ _ => trivial
 replace hN4w := Nat.le_trans hN4w hE.size
 replace hW := hW.ext hE
 replace hX1 := hX1.ext hE
 replace hS1s : ∀ b, S1 b → Soft w b := fun b hb => soft_same hE (by simp) (hS1s b hb)
 replace hX2 := hX2.ext hE
 replace hS2s : ∀ b, S2 b → Soft w b := fun b hb => soft_same hE (by simp) (hS2s b hb)
 replace hF := hF.ext hE
 clear hE hRt
 refine ⟨hF, ?_⟩
 refine f_call rfl (ret_eq (v' := .bool true) (equal_c (copyV x) (copyV x) _ _ _ c2 c4 hX2 hY4) (congrArg Value.bool (eqT_self _))) (x_call2 en_22 rfl rfl rfl) ?_
 rintro _ w ⟨rfl, hE⟩
 replace hF := hF.ext hE
 replace hN4w := Nat.le_trans hN4w hE.size
 replace hW := hW.ext hE
 replace hX1 := hX1.ext hE
 replace hS1s : ∀ b, S1 b → Soft w b := fun b hb => soft_same hE (by simp) (hS1s b hb)
 replace hX2 := hX2.ext hE
 replace hS2s : ∀ b, S2 b → Soft w b := fun b hb => soft_same hE (by simp) (hS2s b hb)
 replace hY4 := hY4.ext hE
 clear hE
 refine ⟨hF, ?_⟩
 refine f_free rfl (v := .bool true) (fun w hC => x_pickt rfl rfl) (f_free rfl (v := .bool true) (fun w hC => x_assign rfl) (d_nil (e_seq (c_seq (c_region (o_val (v := .agg (List.toArray c1)) (x_loadS (l := c1) Tryz.isAgg25 Tryz.sizeOf25 rfl hlc1 (hF.cellsAll 1 rfl)) ?_))))))
 refine o_call (spoil_c (sortedV x) S1 _ c1 hX1 hS1s) (x_call1 en_30 rfl rfl) ?_
 rintro _ w ⟨rfl, hO⟩
 replace hF := hF.touch hO.same (fun b hb => by have h1 := hS1a b (mem_Sb.1 hb).2; refine ⟨fun h => absurd h (by omega), fun p hp => ?_⟩; simp only [List.mem_cons, List.not_mem_nil, or_false] at hp; rcases hp with rfl | rfl | rfl | rfl | rfl <;> (simp only; omega))
 replace hW := hW.same hO.same (fun b hb hlt => by have h1 := (hS1a b (mem_Sb.1 hb).2).1; exact absurd hlt (by show ¬ b < N1; omega))
 replace hX2 := hX2.same hO.same (fun b hb hs => by have h1 := hS1a b (mem_Sb.1 hb).2; have h2 := hS2a b hs; omega)
 replace hS2s : ∀ b, S2 b → Soft w b := fun b hb => hO.soft b (hS2s b hb)
 clear hO hX1
 refine o_nil (e_seq (c_seq (c_region (o_val (v := .agg (List.toArray c2)) (x_loadS (l := c2) Tryz.isAgg25 Tryz.sizeOf25 rfl hlc2 (hF.cellsAll 0 rfl)) ?_))))
 refine o_call (spoil_c (copyV x) S2 _ c2 hX2 hS2s) (x_call1 en_30 rfl rfl) ?_
 rintro _ w ⟨rfl, hO⟩
 replace hF := hF.touch hO.same (fun b hb => by have h1 := hS2a b (mem_Sb.1 hb).2; refine ⟨fun h => absurd h (by omega), fun p hp => ?_⟩; simp only [List.mem_cons, List.not_mem_nil, or_false] at hp; rcases hp with rfl | rfl | rfl | rfl | rfl <;> (simp only; omega))
 replace hW := hW.same hO.same (fun b hb hlt => by have h1 := (hS2a b (mem_Sb.1 hb).2).1; exact absurd hlt (by show ¬ b < N1; omega))
 clear hO hX2
 refine o_nil (e_seq (c_seq ?_))
 refine c_drawF [] (.free 0 (.free 1 (.free 2 (.free 3 (.free 4 (.free 5 (.free 6 (.act 7 (.free 8 (.free 9 (.free 10 (.free 11 (.free 13 (.free 14 (.act 12 (.act 15 (.free 16 (.free 17 (.free 18 (.free 19 (.free 20 (.free 22 (.free 23 (.act 21 (.act 24 (.free 25 (.free 26 (.free 27 .nil)))))))))))))))))))))))))))) (by kernel_rfl) hF (by kernel_rfl) (by kernel_rfl) ?_
 clear hF; intro w hF hE
 replace hW := hW.ext hE
 clear hE
 refine ⟨fun wq => FR w0 [] [(b5, .cells (List.toArray c2) 25), (b4, .cells (List.toArray c1) 25), (b3, .cells (List.toArray cw) 25), (b2, .cells (List.toArray cy) 25), (b1, .cells (List.toArray cx) 25)] wq, hF, ?_⟩
 refine f_free rfl (v := .bool true) (fun w hC => x_move rfl) (f_free rfl (v := .bool true) (fun w hC => x_move rfl) (f_free rfl (v := .bool true) (fun w hC => x_move rfl) (f_free rfl (v := .bool true) (fun w hC => x_pickt rfl rfl) (f_free rfl (v := .bool true) (fun w hC => x_move rfl) (f_free rfl (v := .agg (List.toArray cx)) (fun w hC => x_loadS (l := cx) Tryz.isAgg25 Tryz.sizeOf25 rfl hlcx (hC.cellsAll 4 rfl)) (f_free rfl (v := .agg (List.toArray cw)) (fun w hC => x_loadS (l := cw) Tryz.isAgg25 Tryz.sizeOf25 rfl hlcw (hC.cellsAll 2 rfl)) ?_))))))
 refine f_call rfl (ret_eq (v' := .bool true) (equal_c x x _ _ _ cx cw (hF.rep rx) hW) (congrArg Value.bool (eqT_self _))) (x_call2 en_22 rfl rfl rfl) ?_
 rintro _ w ⟨rfl, hE⟩
 replace hF := hF.ext hE
 replace hW := hW.ext hE
 clear hE
 refine ⟨hF, ?_⟩
 refine f_free rfl (v := .bool true) (fun w hC => x_pickt rfl rfl) (f_free rfl (v := .bool true) (fun w hC => x_move rfl) (f_free rfl (v := .agg (List.toArray cx)) (fun w hC => x_loadS (l := cx) Tryz.isAgg25 Tryz.sizeOf25 rfl hlcx (hC.cellsAll 4 rfl)) (f_free rfl (v := .agg (List.toArray cy)) (fun w hC => x_loadS (l := cy) Tryz.isAgg25 Tryz.sizeOf25 rfl hlcy (hC.cellsAll 3 rfl)) (f_free rfl (v := .agg (List.toArray cx)) (fun w hC => x_loadS (l := cx) Tryz.isAgg25 Tryz.sizeOf25 rfl hlcx (hC.cellsAll 4 rfl)) (f_free rfl (v := .agg (List.toArray cy)) (fun w hC => x_loadS (l := cy) Tryz.isAgg25 Tryz.sizeOf25 rfl hlcy (hC.cellsAll 3 rfl)) ?_)))))
 refine f_call rfl (sameV_c x y (by omega) (by omega) _ _ _ cx cy (hF.rep rx) (hF.rep ry) kx ky (hG.ext hF.same)) (x_call2 en_42 rfl rfl rfl) ?_
 rintro _ w ⟨rfl, hE⟩
 replace hF := hF.ext hE
 replace hW := hW.ext hE
 clear hE
 refine ⟨hF, ?_⟩
 refine f_call rfl (rsameV_c x y (by omega) (by omega) (by omega) (by omega) _ _ _ cx cy (hF.rep rx) (hF.rep ry)) (x_call2 en_47 rfl rfl rfl) ?_
 rintro _ w ⟨rfl, hE⟩
 replace hF := hF.ext hE
 replace hW := hW.ext hE
 clear hE
 refine ⟨hF, ?_⟩
 refine f_free rfl (v := .bool true) (fun w hC => run_boolL (x_eqlb Tryz.underlying4 rfl rfl) (beq_self_eq_true _)) (f_free rfl (v := .bool true) (fun w hC => x_pickt rfl rfl) (f_free rfl (v := .bool true) (fun w hC => x_move rfl) (f_free rfl (v := .agg (List.toArray cx)) (fun w hC => x_loadS (l := cx) Tryz.isAgg25 Tryz.sizeOf25 rfl hlcx (hC.cellsAll 4 rfl)) (f_free rfl (v := .agg (List.toArray cy)) (fun w hC => x_loadS (l := cy) Tryz.isAgg25 Tryz.sizeOf25 rfl hlcy (hC.cellsAll 3 rfl)) (f_free rfl (v := .agg (List.toArray cx)) (fun w hC => x_loadS (l := cx) Tryz.isAgg25 Tryz.sizeOf25 rfl hlcx (hC.cellsAll 4 rfl)) (f_free rfl (v := .agg (List.toArray cy)) (fun w hC => x_loadS (l := cy) Tryz.isAgg25 Tryz.sizeOf25 rfl hlcy (hC.cellsAll 3 rfl)) ?_))))))
 refine f_call rfl (compareV_c x y (by omega) (by omega) _ _ _ cx cy (hF.rep rx) (hF.rep ry) kx ky (hG.ext hF.same)) (x_call2 en_41 rfl rfl rfl) ?_
 rintro _ w ⟨rfl, hE⟩
 replace hF := hF.ext hE
 replace hW := hW.ext hE
 clear hE
 refine ⟨hF, ?_⟩
 refine f_call rfl (rcompareV_c x y (by omega) (by omega) (by omega) (by omega) _ _ _ cx cy (hF.rep rx) (hF.rep ry)) (x_call2 en_48 rfl rfl rfl) ?_
 rintro _ w ⟨rfl, hE⟩
 replace hF := hF.ext hE
 replace hW := hW.ext hE
 clear hE
 refine ⟨hF, ?_⟩
 refine f_free rfl (v := .bool true) (fun w hC => run_true (x_eql rfl rfl) rfl) (f_free rfl (v := .bool true) (fun w hC => x_pickt rfl rfl) (f_free rfl (v := .bool true) (fun w hC => x_assign rfl) (d_nil (e_seq ?_))))
 refine c_ret (e_ret (post_ret (res_1 (v := .bool true) rfl rfl) ?_))
 exact ⟨rfl, hF.same⟩
 refine o_off (o_off (o_val (v := .bool false) (x_pickf rfl rfl) (o_val (v := .bool false) (x_assign rfl) (o_nil (e_seq (c_seq (c_seq (c_region (o_val (v := .bool false) (x_move rfl) (o_val (v := .bool true) (x_not (b := false) rfl) (o_nil (e_seq (c_ift rfl ?_)))))))))))))
 refine c_seq (c_region (o_val (v := .bool true) (x_move rfl) (o_val (v := .bool true) (x_assign rfl) (o_nil (e_seq ?_)))))
 refine c_ret (e_ret (post_ret (res_1 (v := .bool true) rfl rfl) ?_))
 exact ⟨rfl, hF.same⟩
end Go.Scarf
