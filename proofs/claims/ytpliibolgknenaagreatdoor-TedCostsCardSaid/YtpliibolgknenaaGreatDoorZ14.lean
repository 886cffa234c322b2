/- A part of the proof. -/
import Derived.Test.YtpliibolgknenaaGreatDoorZ11
import Derived.Test.YtpliibolgknenaaGreatDoorW20
set_option linter.all false
namespace Go.Scarf
open Go.RowKit Go.Proofs
def t1T : Tree := .node 3 [49] [] []
def t12T : Tree := .node 5 [] [] [.node 3 [49] [] [], .node 3 [50] [] []]
def t13T : Tree := .node 5 [] [] [.node 3 [49] [] [], .node 3 [51] [] []]
def t2T : Tree := .node 5 [] [] [.node 3 [50] [] []]
def t1rT : Tree := .node 5 [] [] [.node 3 [49] [] []]
def taT : Tree := .node 6 [] [[97]] [.node 3 [49] [] []]
def tbT : Tree := .node 6 [] [[98]] [.node 3 [49] [] []]
def t0T : Tree := .node 5 [] [] []
theorem sortS_one (k : Str) : sortS [k] = [k] := List.mergeSort_of_pairwise (by simp)
theorem sorted_one (k : Str) (h : openB (.node 6 [] [k] [.node 3 [49] [] []]) = true) : sortedV (.node 6 [] [k] [.node 3 [49] [] []]) = .node 6 [] [k] [.node 3 [49] [] []] := by
  rw [sortedV, if_pos h, sortT, if_pos rfl, sortS_one]
  simp [sortTs, lookT, sortT]
theorem bet_1 : betN t12T t13T = 1 ∧ betE t12T t13T = 0 := ⟨by kernel_rfl, by kernel_rfl⟩
theorem bet_2 : betN t12T t2T = 1 ∧ betE t12T t2T = 0 := ⟨by kernel_rfl, by kernel_rfl⟩
theorem bet_3 : betN t1T t1rT = 1 ∧ betE t1T t1rT = 0 := ⟨by kernel_rfl, by kernel_rfl⟩
theorem sorted_a : sortedV taT = taT := sorted_one [97] (by kernel_rfl)
theorem sorted_b : sortedV tbT = tbT := sorted_one [98] (by kernel_rfl)
theorem bet_4 : betN taT tbT = 1 ∧ betE taT tbT = 0 := by
  refine ⟨?_, by kernel_rfl⟩
  rw [betN, if_pos (by kernel_rfl), treeL, treeF, treeL, treeF, sorted_a, sorted_b]
  kernel_rfl
theorem bet_5 : betN taT t0T = 3 ∧ betE taT t0T = 0 := by
  refine ⟨?_, by kernel_rfl⟩
  rw [betN, if_pos (by kernel_rfl), treeL, treeF, sorted_a]
  kernel_rfl
set_option maxHeartbeats 8000000 in
set_option maxRecDepth 10000 in
theorem small16_c (w0 : World) (hG : Gl w0) : Calls Tryz.prog 8 #[] w0 (Ret fun v w' => v = .bool true ∧ Same [] w0 w') := by
 refine calls_start Tryz.func8 rfl Tryz.ntmps8 (Nat.le_of_ble_eq_true rfl) (args_0) ?_
 have hF := FR.start w0 []
 refine c_seq (c_region (o_val (x_assign rfl) (o_nil (e_seq (c_seq (c_region ?_))))))
 refine o_call (ret_eq (v' := .agg #[.int .i64 (3), .string (bs ([49])), .slice (none) (0) (0), .slice (none) (0) (0)]) (num_c 1 (by omega) (by omega) _ (hG.ext hF.same)) (by kernel_rfl)) (x_call1 en_22 rfl rfl) ?_
 rintro _ w ⟨rfl, hE⟩
 replace hF := hF.ext hE
 clear hE
 refine o_lay (l := [.int .i64 (3), .string (bs ([49])), .slice (none) (0) (0), .slice (none) (0) (0)]) hF Tryz.zeroValue25 Tryz.sizeOf25 rfl (v := .agg #[.int .i64 (3), .string (bs ([49])), .slice (none) (0) (0), .slice (none) (0) (0)]) rfl rfl (by simp [one]) rfl ?_
 clear hF; rintro b1 w hb1 hF -
 refine o_nil (e_seq (c_seq (c_region ?_)))
 refine o_call (ret_eq (v' := .agg #[.int .i64 (3), .string (bs ([50])), .slice (none) (0) (0), .slice (none) (0) (0)]) (num_c 2 (by omega) (by omega) _ (hG.ext hF.same)) (by kernel_rfl)) (x_call1 en_22 rfl rfl) ?_
 rintro _ w ⟨rfl, hE⟩
 replace hF := hF.ext hE
 clear hE
 refine o_lay (l := [.int .i64 (3), .string (bs ([50])), .slice (none) (0) (0), .slice (none) (0) (0)]) hF Tryz.zeroValue25 Tryz.sizeOf25 rfl (v := .agg #[.int .i64 (3), .string (bs ([50])), .slice (none) (0) (0), .slice (none) (0) (0)]) rfl rfl (by simp [one]) rfl ?_
 clear hF; rintro b2 w hb2 hF -
 refine o_nil (e_seq (c_seq ?_))
 refine c_join (fun σ w => AllEq σ [(1, .pointer (some ⟨b1, 0, none⟩)), (2, .pointer (some ⟨b2, 0, none⟩)), (3, .int .i64 (1)), (4, .int .i64 (0))] ∧ FR w0 [] [(b2, .cells #[.int .i64 (3), .string (bs ([50])), .slice (none) (0) (0), .slice (none) (0) (0)] 25), (b1, .cells #[.int .i64 (3), .string (bs ([49])), .slice (none) (0) (0), .slice (none) (0) (0)] 25)] w) ?_ ?_
 refine c_drawF [] (.free 0 (.free 1 (.free 4 (.act 2 (.act 3 (.act 5 (.act 6 (.act 7 (.act 8 (.free 9 (.free 10 (.free 11 (.free 12 (.free 13 .nil)))))))))))))) (by kernel_rfl) hF (by kernel_rfl) (by kernel_rfl) ?_
 clear hF; rintro w hF -
 refine ⟨fun wq => FR w0 [] [(b2, .cells #[.int .i64 (3), .string (bs ([50])), .slice (none) (0) (0), .slice (none) (0) (0)] 25), (b1, .cells #[.int .i64 (3), .string (bs ([49])), .slice (none) (0) (0), .slice (none) (0) (0)] 25)] wq, hF, ?_⟩
 refine f_free rfl (v := .agg #[.int .i64 (3), .string (bs ([49])), .slice (none) (0) (0), .slice (none) (0) (0)]) (fun w hC => x_loadS (l := [.int .i64 (3), .string (bs ([49])), .slice (none) (0) (0), .slice (none) (0) (0)]) Tryz.isAgg25 Tryz.sizeOf25 rfl rfl (hC.cellsAll 1 rfl)) (f_free rfl (v := .agg #[.int .i64 (3), .string (bs ([50])), .slice (none) (0) (0), .slice (none) (0) (0)]) (fun w hC => x_loadS (l := [.int .i64 (3), .string (bs ([50])), .slice (none) (0) (0), .slice (none) (0) (0)]) Tryz.isAgg25 Tryz.sizeOf25 rfl rfl (hC.cellsAll 0 rfl)) (f_free rfl (v := .agg #[.int .i64 (3), .string (bs ([49])), .slice (none) (0) (0), .slice (none) (0) (0)]) (fun w hC => x_loadS (l := [.int .i64 (3), .string (bs ([49])), .slice (none) (0) (0), .slice (none) (0) (0)]) Tryz.isAgg25 Tryz.sizeOf25 rfl rfl (hC.cellsAll 1 rfl)) ?_))
 refine f_new rfl (v := fun b => .slice (some ⟨b, 0, none⟩) 2 2) hF (x_buildSlice (cs := #[.int .i64 (3), .string (bs ([49])), .slice (none) (0) (0), .slice (none) (0) (0), .int .i64 (3), .string (bs ([50])), .slice (none) (0) (0), .slice (none) (0) (0)]) Tryz.underlying23 Tryz.sizeOf25 Tryz.zeroValue25 (by decide) (by decide) (by kernel_rfl)) ?_
 clear hF; rintro b3 w hb3 hF -
 refine ⟨hF.sub (.cons _ (.cons_cons _ (.cons_cons _ .slnil))), ?_⟩
 refine f_call rfl (row_c (some ⟨b3, 0, none⟩) 2 2 _) (x_call1 en_17 rfl rfl) ?_
 rintro _ w ⟨rfl, hE⟩
 replace hF := hF.ext hE
 clear hE
 refine ⟨hF.sub (.cons _ (.cons_cons _ (.cons_cons _ .slnil))), ?_⟩
 refine f_call rfl (ret_eq (v' := .agg #[.int .i64 (3), .string (bs ([51])), .slice (none) (0) (0), .slice (none) (0) (0)]) (num_c 3 (by omega) (by omega) _ (hG.ext hF.same)) (by kernel_rfl)) (x_call1 en_22 rfl rfl) ?_
 rintro _ w ⟨rfl, hE⟩
 replace hF := hF.ext hE
 clear hE
 refine ⟨hF.sub (.cons _ (.cons_cons _ (.cons_cons _ .slnil))), ?_⟩
 refine f_new rfl (v := fun b => .slice (some ⟨b, 0, none⟩) 2 2) hF (x_buildSlice (cs := #[.int .i64 (3), .string (bs ([49])), .slice (none) (0) (0), .slice (none) (0) (0), .int .i64 (3), .string (bs ([51])), .slice (none) (0) (0), .slice (none) (0) (0)]) Tryz.underlying23 Tryz.sizeOf25 Tryz.zeroValue25 (by decide) (by decide) (by kernel_rfl)) ?_
 clear hF; rintro b4 w hb4 hF -
 refine ⟨hF.sub (.cons _ (.cons _ (.cons_cons _ (.cons_cons _ .slnil)))), ?_⟩
 refine f_call rfl (row_c (some ⟨b4, 0, none⟩) 2 2 _) (x_call1 en_17 rfl rfl) ?_
 rintro _ w ⟨rfl, hE⟩
 replace hF := hF.ext hE
 clear hE
 refine ⟨hF.sub (.cons _ (.cons _ (.cons_cons _ (.cons_cons _ .slnil)))), ?_⟩
 have hx_ : RX w0 [] w [treeD t12T] [.int .i64 (5), .string (bs ([])), .slice (none) (0) (0), .slice (some ⟨b3, 0, none⟩) (2) (2)] := RX.tree ⟨by omega, by omega⟩ (by simp) RX.nils (hF.rowX (ids := []) 1 rfl (RX.append (ds := [_]) (RX.num [49] (by simp)) (RX.num [50] (by simp))) (by simp) rfl (by simp [treesD]))
 have hy_ : RX w0 [] w [treeD t13T] [.int .i64 (5), .string (bs ([])), .slice (none) (0) (0), .slice (some ⟨b4, 0, none⟩) (2) (2)] := RX.tree ⟨by omega, by omega⟩ (by simp) RX.nils (hF.rowX (ids := []) 0 rfl (RX.append (ds := [_]) (RX.num [49] (by simp)) (RX.num [51] (by simp))) (by simp) rfl (by simp [treesD]))
 refine f_call rfl ((by have h := between_c t12T t13T _ _ _ [.int .i64 (5), .string (bs ([])), .slice (none) (0) (0), .slice (some ⟨b3, 0, none⟩) (2) (2)] [.int .i64 (5), .string (bs ([])), .slice (none) (0) (0), .slice (some ⟨b4, 0, none⟩) (2) (2)] hx_.rep hy_.rep (hG.ext hF.same) (by decide) (by decide) (by decide) (by decide); rw [bet_1.1, bet_1.2] at h; exact h)) (x_call2 en_11 rfl rfl rfl) ?_
 rintro _ w ⟨rfl, hE⟩
 replace hF := hF.ext hE
 clear hE
 refine ⟨hF.sub (.cons _ (.cons _ (.cons_cons _ (.cons_cons _ .slnil)))), ?_⟩
 refine f_free rfl (v := .tuple #[.int .i64 (1), .int .i64 (0)]) (fun w hC => x_move rfl) (f_free rfl (v := .int .i64 (1)) (fun w hC => x_extract rfl rfl) (f_free rfl (v := .int .i64 (0)) (fun w hC => x_extract rfl rfl) (f_free rfl (v := .int .i64 (1)) (fun w hC => x_assign rfl) (f_free rfl (v := .int .i64 (0)) (fun w hC => x_assign rfl) (d_nil ?_)))))
 exact e_inv ⟨⟨rfl, rfl, rfl, rfl, trivial⟩, ((((hF.front 3 rfl).front 3 rfl).erase 2).erase 2)⟩
 clear hF; rintro σ w ⟨hs, hF⟩
 refine Eg.slots hs ?_
 clear hs; intro σ
 refine e_seq (c_seq ?_)
 refine c_join (fun σ w => AllEq σ [(1, .pointer (some ⟨b1, 0, none⟩)), (3, .int .i64 (1)), (4, .int .i64 (0)), (5, .int .i64 (1)), (6, .int .i64 (0))] ∧ FR w0 [] [(b2, .cells #[.int .i64 (3), .string (bs ([50])), .slice (none) (0) (0), .slice (none) (0) (0)] 25), (b1, .cells #[.int .i64 (3), .string (bs ([49])), .slice (none) (0) (0), .slice (none) (0) (0)] 25)] w) ?_ ?_
 refine c_drawF [] (.free 0 (.free 1 (.free 4 (.alt 2 (.alt 3 (.act 5 (.act 6 (.act 7 (.free 8 (.free 9 (.free 10 (.free 11 (.free 12 .nil)))))))) (.act 5 (.act 3 (.act 6 (.act 7 (.free 8 (.free 9 (.free 10 (.free 11 (.free 12 .nil)))))))))) (.act 5 (.act 2 (.act 3 (.act 6 (.act 7 (.free 8 (.free 9 (.free 10 (.free 11 (.free 12 .nil)))))))))))))) (by kernel_rfl) hF (by kernel_rfl) (by kernel_rfl) ?_
 clear hF; rintro w hF -
 refine ⟨fun wq => FR w0 [] [(b2, .cells #[.int .i64 (3), .string (bs ([50])), .slice (none) (0) (0), .slice (none) (0) (0)] 25), (b1, .cells #[.int .i64 (3), .string (bs ([49])), .slice (none) (0) (0), .slice (none) (0) (0)] 25)] wq, hF, ?_⟩
 refine f_free rfl (v := .agg #[.int .i64 (3), .string (bs ([49])), .slice (none) (0) (0), .slice (none) (0) (0)]) (fun w hC => x_loadS (l := [.int .i64 (3), .string (bs ([49])), .slice (none) (0) (0), .slice (none) (0) (0)]) Tryz.isAgg25 Tryz.sizeOf25 rfl rfl (hC.cellsAll 1 rfl)) (f_free rfl (v := .agg #[.int .i64 (3), .string (bs ([50])), .slice (none) (0) (0), .slice (none) (0) (0)]) (fun w hC => x_loadS (l := [.int .i64 (3), .string (bs ([50])), .slice (none) (0) (0), .slice (none) (0) (0)]) Tryz.isAgg25 Tryz.sizeOf25 rfl rfl (hC.cellsAll 0 rfl)) (f_free rfl (v := .agg #[.int .i64 (3), .string (bs ([50])), .slice (none) (0) (0), .slice (none) (0) (0)]) (fun w hC => x_loadS (l := [.int .i64 (3), .string (bs ([50])), .slice (none) (0) (0), .slice (none) (0) (0)]) Tryz.isAgg25 Tryz.sizeOf25 rfl rfl (hC.cellsAll 0 rfl)) ?_))
 refine d_alt ?_ ?_
 refine f_new rfl (v := fun b => .slice (some ⟨b, 0, none⟩) 2 2) hF (x_buildSlice (cs := #[.int .i64 (3), .string (bs ([49])), .slice (none) (0) (0), .slice (none) (0) (0), .int .i64 (3), .string (bs ([50])), .slice (none) (0) (0), .slice (none) (0) (0)]) Tryz.underlying23 Tryz.sizeOf25 Tryz.zeroValue25 (by decide) (by decide) (by kernel_rfl)) ?_
 clear hF; rintro b5 w hb5 hF -
 refine ⟨hF.sub (.cons _ (.cons_cons _ (.cons_cons _ .slnil))), ?_⟩
 refine d_alt ?_ ?_
 refine f_call rfl (row_c (some ⟨b5, 0, none⟩) 2 2 _) (x_call1 en_17 rfl rfl) ?_
 rintro _ w ⟨rfl, hE⟩
 replace hF := hF.ext hE
 clear hE
 refine ⟨hF.sub (.cons _ (.cons_cons _ (.cons_cons _ .slnil))), ?_⟩
 refine f_new rfl (v := fun b => .slice (some ⟨b, 0, none⟩) 1 1) hF (x_buildSlice (cs := #[.int .i64 (3), .string (bs ([50])), .slice (none) (0) (0), .slice (none) (0) (0)]) Tryz.underlying23 Tryz.sizeOf25 Tryz.zeroValue25 (by decide) (by decide) (by kernel_rfl)) ?_
 clear hF; rintro b6 w hb6 hF -
 refine ⟨hF.sub (.cons _ (.cons _ (.cons_cons _ (.cons_cons _ .slnil)))), ?_⟩
 refine f_call rfl (row_c (some ⟨b6, 0, none⟩) 1 1 _) (x_call1 en_17 rfl rfl) ?_
 rintro _ w ⟨rfl, hE⟩
 replace hF := hF.ext hE
 clear hE
 refine ⟨hF.sub (.cons _ (.cons _ (.cons_cons _ (.cons_cons _ .slnil)))), ?_⟩
 have hx_ : RX w0 [] w [treeD t12T] [.int .i64 (5), .string (bs ([])), .slice (none) (0) (0), .slice (some ⟨b5, 0, none⟩) (2) (2)] := RX.tree ⟨by omega, by omega⟩ (by simp) RX.nils (hF.rowX (ids := []) 1 rfl (RX.append (ds := [_]) (RX.num [49] (by simp)) (RX.num [50] (by simp))) (by simp) rfl (by simp [treesD]))
 have hy_ : RX w0 [] w [treeD t2T] [.int .i64 (5), .string (bs ([])), .slice (none) (0) (0), .slice (some ⟨b6, 0, none⟩) (1) (1)] := RX.tree ⟨by omega, by omega⟩ (by simp) RX.nils (hF.rowX (ids := []) 0 rfl (RX.num [50] (by simp)) (by simp) rfl (by simp [treesD]))
 refine f_call rfl ((by have h := between_c t12T t2T _ _ _ [.int .i64 (5), .string (bs ([])), .slice (none) (0) (0), .slice (some ⟨b5, 0, none⟩) (2) (2)] [.int .i64 (5), .string (bs ([])), .slice (none) (0) (0), .slice (some ⟨b6, 0, none⟩) (1) (1)] hx_.rep hy_.rep (hG.ext hF.same) (by decide) (by decide) (by decide) (by decide); rw [bet_2.1, bet_2.2] at h; exact h)) (x_call2 en_11 rfl rfl rfl) ?_
 rintro _ w ⟨rfl, hE⟩
 replace hF := hF.ext hE
 clear hE
 refine ⟨hF.sub (.cons _ (.cons _ (.cons_cons _ (.cons_cons _ .slnil)))), ?_⟩
 refine f_free rfl (v := .tuple #[.int .i64 (1), .int .i64 (0)]) (fun w hC => x_move rfl) (f_free rfl (v := .int .i64 (1)) (fun w hC => x_extract rfl rfl) (f_free rfl (v := .int .i64 (0)) (fun w hC => x_extract rfl rfl) (f_free rfl (v := .int .i64 (1)) (fun w hC => x_assign rfl) (f_free rfl (v := .int .i64 (0)) (fun w hC => x_assign rfl) (d_nil ?_)))))
 exact e_inv ⟨⟨rfl, rfl, rfl, rfl, rfl, trivial⟩, ((((hF.front 3 rfl).front 3 rfl).erase 2).erase 2)⟩
 refine f_new rfl (v := fun b => .slice (some ⟨b, 0, none⟩) 1 1) hF (x_buildSlice (cs := #[.int .i64 (3), .string (bs ([50])), .slice (none) (0) (0), .slice (none) (0) (0)]) Tryz.underlying23 Tryz.sizeOf25 Tryz.zeroValue25 (by decide) (by decide) (by kernel_rfl)) ?_
 clear hF; rintro b7 w hb7 hF -
 refine ⟨hF.sub (.cons _ (.cons _ (.cons_cons _ (.cons_cons _ .slnil)))), ?_⟩
 refine f_call rfl (row_c (some ⟨b5, 0, none⟩) 2 2 _) (x_call1 en_17 rfl rfl) ?_
 rintro _ w ⟨rfl, hE⟩
 replace hF := hF.ext hE
 clear hE
 refine ⟨hF.sub (.cons _ (.cons _ (.cons_cons _ (.cons_cons _ .slnil)))), ?_⟩
 refine f_call rfl (row_c (some ⟨b7, 0, none⟩) 1 1 _) (x_call1 en_17 rfl rfl) ?_
 rintro _ w ⟨rfl, hE⟩
 replace hF := hF.ext hE
 clear hE
 refine ⟨hF.sub (.cons _ (.cons _ (.cons_cons _ (.cons_cons _ .slnil)))), ?_⟩
 have hx_ : RX w0 [] w [treeD t12T] [.int .i64 (5), .string (bs ([])), .slice (none) (0) (0), .slice (some ⟨b5, 0, none⟩) (2) (2)] := RX.tree ⟨by omega, by omega⟩ (by simp) RX.nils (hF.rowX (ids := []) 1 rfl (RX.append (ds := [_]) (RX.num [49] (by simp)) (RX.num [50] (by simp))) (by simp) rfl (by simp [treesD]))
 have hy_ : RX w0 [] w [treeD t2T] [.int .i64 (5), .string (bs ([])), .slice (none) (0) (0), .slice (some ⟨b7, 0, none⟩) (1) (1)] := RX.tree ⟨by omega, by omega⟩ (by simp) RX.nils (hF.rowX (ids := []) 0 rfl (RX.num [50] (by simp)) (by simp) rfl (by simp [treesD]))
 refine f_call rfl ((by have h := between_c t12T t2T _ _ _ [.int .i64 (5), .string (bs ([])), .slice (none) (0) (0), .slice (some ⟨b5, 0, none⟩) (2) (2)] [.int .i64 (5), .string (bs ([])), .slice (none) (0) (0), .slice (some ⟨b7, 0, none⟩) (1) (1)] hx_.rep hy_.rep (hG.ext hF.same) (by decide) (by decide) (by decide) (by decide); rw [bet_2.1, bet_2.2] at h; exact h)) (x_call2 en_11 rfl rfl rfl) ?_
 rintro _ w ⟨rfl, hE⟩
 replace hF := hF.ext hE
 clear hE
 refine ⟨hF.sub (.cons _ (.cons _ (.cons_cons _ (.cons_cons _ .slnil)))), ?_⟩
 refine f_free rfl (v := .tuple #[.int .i64 (1), .int .i64 (0)]) (fun w hC => x_move rfl) (f_free rfl (v := .int .i64 (1)) (fun w hC => x_extract rfl rfl) (f_free rfl (v := .int .i64 (0)) (fun w hC => x_extract rfl rfl) (f_free rfl (v := .int .i64 (1)) (fun w hC => x_assign rfl) (f_free rfl (v := .int .i64 (0)) (fun w hC => x_assign rfl) (d_nil ?_)))))
 exact e_inv ⟨⟨rfl, rfl, rfl, rfl, rfl, trivial⟩, ((((hF.front 3 rfl).front 3 rfl).erase 2).erase 2)⟩
 refine f_new rfl (v := fun b => .slice (some ⟨b, 0, none⟩) 1 1) hF (x_buildSlice (cs := #[.int .i64 (3), .string (bs ([50])), .slice (none) (0) (0), .slice (none) (0) (0)]) Tryz.underlying23 Tryz.sizeOf25 Tryz.zeroValue25 (by decide) (by decide) (by kernel_rfl)) ?_
 clear hF; rintro b8 w hb8 hF -
 refine ⟨hF.sub (.cons _ (.cons_cons _ (.cons_cons _ .slnil))), ?_⟩
 refine f_new rfl (v := fun b => .slice (some ⟨b, 0, none⟩) 2 2) hF (x_buildSlice (cs := #[.int .i64 (3), .string (bs ([49])), .slice (none) (0) (0), .slice (none) (0) (0), .int .i64 (3), .string (bs ([50])), .slice (none) (0) (0), .slice (none) (0) (0)]) Tryz.underlying23 Tryz.sizeOf25 Tryz.zeroValue25 (by decide) (by decide) (by kernel_rfl)) ?_
 clear hF; rintro b9 w hb9 hF -
 refine ⟨hF.sub (.cons _ (.cons _ (.cons_cons _ (.cons_cons _ .slnil)))), ?_⟩
 refine f_call rfl (row_c (some ⟨b9, 0, none⟩) 2 2 _) (x_call1 en_17 rfl rfl) ?_
 rintro _ w ⟨rfl, hE⟩
 replace hF := hF.ext hE
 clear hE
 refine ⟨hF.sub (.cons _ (.cons _ (.cons_cons _ (.cons_cons _ .slnil)))), ?_⟩
 refine f_call rfl (row_c (some ⟨b8, 0, none⟩) 1 1 _) (x_call1 en_17 rfl rfl) ?_
 rintro _ w ⟨rfl, hE⟩
 replace hF := hF.ext hE
 clear hE
 refine ⟨hF.sub (.cons _ (.cons _ (.cons_cons _ (.cons_cons _ .slnil)))), ?_⟩
 have hx_ : RX w0 [] w [treeD t12T] [.int .i64 (5), .string (bs ([])), .slice (none) (0) (0), .slice (some ⟨b9, 0, none⟩) (2) (2)] := RX.tree ⟨by omega, by omega⟩ (by simp) RX.nils (hF.rowX (ids := []) 0 rfl (RX.append (ds := [_]) (RX.num [49] (by simp)) (RX.num [50] (by simp))) (by simp) rfl (by simp [treesD]))
 have hy_ : RX w0 [] w [treeD t2T] [.int .i64 (5), .string (bs ([])), .slice (none) (0) (0), .slice (some ⟨b8, 0, none⟩) (1) (1)] := RX.tree ⟨by omega, by omega⟩ (by simp) RX.nils (hF.rowX (ids := []) 1 rfl (RX.num [50] (by simp)) (by simp) rfl (by simp [treesD]))
 refine f_call rfl ((by have h := between_c t12T t2T _ _ _ [.int .i64 (5), .string (bs ([])), .slice (none) (0) (0), .slice (some ⟨b9, 0, none⟩) (2) (2)] [.int .i64 (5), .string (bs ([])), .slice (none) (0) (0), .slice (some ⟨b8, 0, none⟩) (1) (1)] hx_.rep hy_.rep (hG.ext hF.same) (by decide) (by decide) (by decide) (by decide); rw [bet_2.1, bet_2.2] at h; exact h)) (x_call2 en_11 rfl rfl rfl) ?_
 rintro _ w ⟨rfl, hE⟩
 replace hF := hF.ext hE
 clear hE
 refine ⟨hF.sub (.cons _ (.cons _ (.cons_cons _ (.cons_cons _ .slnil)))), ?_⟩
 refine f_free rfl (v := .tuple #[.int .i64 (1), .int .i64 (0)]) (fun w hC => x_move rfl) (f_free rfl (v := .int .i64 (1)) (fun w hC => x_extract rfl rfl) (f_free rfl (v := .int .i64 (0)) (fun w hC => x_extract rfl rfl) (f_free rfl (v := .int .i64 (1)) (fun w hC => x_assign rfl) (f_free rfl (v := .int .i64 (0)) (fun w hC => x_assign rfl) (d_nil ?_)))))
 exact e_inv ⟨⟨rfl, rfl, rfl, rfl, rfl, trivial⟩, ((((hF.front 3 rfl).front 3 rfl).erase 2).erase 2)⟩
 clear hF; rintro σ w ⟨hs, hF⟩
 refine Eg.slots hs ?_
 clear hs; intro σ
 refine e_seq (c_seq ?_)
 refine c_join (fun σ w => AllEq σ [(1, .pointer (some ⟨b1, 0, none⟩)), (3, .int .i64 (1)), (4, .int .i64 (0)), (5, .int .i64 (1)), (6, .int .i64 (0)), (7, .int .i64 (1)), (8, .int .i64 (0))] ∧ FR w0 [] [(b2, .cells #[.int .i64 (3), .string (bs ([50])), .slice (none) (0) (0), .slice (none) (0) (0)] 25), (b1, .cells #[.int .i64 (3), .string (bs ([49])), .slice (none) (0) (0), .slice (none) (0) (0)] 25)] w) ?_ ?_
 refine c_drawF [] (.free 0 (.free 1 (.act 2 (.act 3 (.act 4 (.free 5 (.free 6 (.free 7 (.free 8 (.free 9 .nil)))))))))) (by kernel_rfl) hF (by kernel_rfl) (by kernel_rfl) ?_
 clear hF; rintro w hF -
 refine ⟨fun wq => FR w0 [] [(b2, .cells #[.int .i64 (3), .string (bs ([50])), .slice (none) (0) (0), .slice (none) (0) (0)] 25), (b1, .cells #[.int .i64 (3), .string (bs ([49])), .slice (none) (0) (0), .slice (none) (0) (0)] 25)] wq, hF, ?_⟩
 refine f_free rfl (v := .agg #[.int .i64 (3), .string (bs ([49])), .slice (none) (0) (0), .slice (none) (0) (0)]) (fun w hC => x_loadS (l := [.int .i64 (3), .string (bs ([49])), .slice (none) (0) (0), .slice (none) (0) (0)]) Tryz.isAgg25 Tryz.sizeOf25 rfl rfl (hC.cellsAll 1 rfl)) (f_free rfl (v := .agg #[.int .i64 (3), .string (bs ([49])), .slice (none) (0) (0), .slice (none) (0) (0)]) (fun w hC => x_loadS (l := [.int .i64 (3), .string (bs ([49])), .slice (none) (0) (0), .slice (none) (0) (0)]) Tryz.isAgg25 Tryz.sizeOf25 rfl rfl (hC.cellsAll 1 rfl)) ?_)
 refine f_new rfl (v := fun b => .slice (some ⟨b, 0, none⟩) 1 1) hF (x_buildSlice (cs := #[.int .i64 (3), .string (bs ([49])), .slice (none) (0) (0), .slice (none) (0) (0)]) Tryz.underlying23 Tryz.sizeOf25 Tryz.zeroValue25 (by decide) (by decide) (by kernel_rfl)) ?_
 clear hF; rintro b10 w hb10 hF -
 refine ⟨hF.sub (.cons _ (.cons_cons _ (.cons_cons _ .slnil))), ?_⟩
 refine f_call rfl (row_c (some ⟨b10, 0, none⟩) 1 1 _) (x_call1 en_17 rfl rfl) ?_
 rintro _ w ⟨rfl, hE⟩
 replace hF := hF.ext hE
 clear hE
 refine ⟨hF.sub (.cons _ (.cons_cons _ (.cons_cons _ .slnil))), ?_⟩
 have hx_ : RX w0 [] w [treeD t1T] [.int .i64 (3), .string (bs ([49])), .slice (none) (0) (0), .slice (none) (0) (0)] := RX.num [49] (by simp)
 have hy_ : RX w0 [] w [treeD t1rT] [.int .i64 (5), .string (bs ([])), .slice (none) (0) (0), .slice (some ⟨b10, 0, none⟩) (1) (1)] := RX.tree ⟨by omega, by omega⟩ (by simp) RX.nils (hF.rowX (ids := []) 0 rfl (RX.num [49] (by simp)) (by simp) rfl (by simp [treesD]))
 refine f_call rfl ((by have h := between_c t1T t1rT _ _ _ [.int .i64 (3), .string (bs ([49])), .slice (none) (0) (0), .slice (none) (0) (0)] [.int .i64 (5), .string (bs ([])), .slice (none) (0) (0), .slice (some ⟨b10, 0, none⟩) (1) (1)] hx_.rep hy_.rep (hG.ext hF.same) (by decide) (by decide) (by decide) (by decide); rw [bet_3.1, bet_3.2] at h; exact h)) (x_call2 en_11 rfl rfl rfl) ?_
 rintro _ w ⟨rfl, hE⟩
 replace hF := hF.ext hE
 clear hE
 refine ⟨hF.sub (.cons _ (.cons_cons _ (.cons_cons _ .slnil))), ?_⟩
 refine f_free rfl (v := .tuple #[.int .i64 (1), .int .i64 (0)]) (fun w hC => x_move rfl) (f_free rfl (v := .int .i64 (1)) (fun w hC => x_extract rfl rfl) (f_free rfl (v := .int .i64 (0)) (fun w hC => x_extract rfl rfl) (f_free rfl (v := .int .i64 (1)) (fun w hC => x_assign rfl) (f_free rfl (v := .int .i64 (0)) (fun w hC => x_assign rfl) (d_nil ?_)))))
 exact e_inv ⟨⟨rfl, rfl, rfl, rfl, rfl, rfl, rfl, trivial⟩, (((hF.front 2 rfl).front 2 rfl).erase 2)⟩
 clear hF; rintro σ w ⟨hs, hF⟩
 refine Eg.slots hs ?_
 clear hs; intro σ
 refine e_seq (c_seq ?_)
 refine c_join (fun σ w => AllEq σ [(1, .pointer (some ⟨b1, 0, none⟩)), (3, .int .i64 (1)), (4, .int .i64 (0)), (5, .int .i64 (1)), (6, .int .i64 (0)), (7, .int .i64 (1)), (8, .int .i64 (0)), (9, .int .i64 (1)), (10, .int .i64 (0))] ∧ FR w0 [] [(b2, .cells #[.int .i64 (3), .string (bs ([50])), .slice (none) (0) (0), .slice (none) (0) (0)] 25), (b1, .cells #[.int .i64 (3), .string (bs ([49])), .slice (none) (0) (0), .slice (none) (0) (0)] 25)] w) ?_ ?_
 refine c_drawF [] (.free 1 (.free 5 (.alt 0 (.alt 2 (.alt 3 (.alt 4 (.act 6 (.act 7 (.act 8 (.free 9 (.free 10 (.free 11 (.free 12 (.free 13 .nil)))))))) (.act 6 (.act 4 (.act 7 (.act 8 (.free 9 (.free 10 (.free 11 (.free 12 (.free 13 .nil)))))))))) (.alt 4 (.alt 3 (.act 6 (.act 7 (.act 8 (.free 9 (.free 10 (.free 11 (.free 12 (.free 13 .nil)))))))) (.act 6 (.act 3 (.act 7 (.act 8 (.free 9 (.free 10 (.free 11 (.free 12 (.free 13 .nil)))))))))) (.act 6 (.alt 3 (.act 4 (.act 7 (.act 8 (.free 9 (.free 10 (.free 11 (.free 12 (.free 13 .nil)))))))) (.act 4 (.act 3 (.act 7 (.act 8 (.free 9 (.free 10 (.free 11 (.free 12 (.free 13 .nil))))))))))))) (.alt 4 (.alt 2 (.alt 3 (.act 6 (.act 7 (.act 8 (.free 9 (.free 10 (.free 11 (.free 12 (.free 13 .nil)))))))) (.act 6 (.act 3 (.act 7 (.act 8 (.free 9 (.free 10 (.free 11 (.free 12 (.free 13 .nil)))))))))) (.act 6 (.act 2 (.act 3 (.act 7 (.act 8 (.free 9 (.free 10 (.free 11 (.free 12 (.free 13 .nil))))))))))) (.act 6 (.alt 2 (.alt 3 (.act 4 (.act 7 (.act 8 (.free 9 (.free 10 (.free 11 (.free 12 (.free 13 .nil)))))))) (.act 4 (.act 3 (.act 7 (.act 8 (.free 9 (.free 10 (.free 11 (.free 12 (.free 13 .nil)))))))))) (.act 4 (.act 2 (.act 3 (.act 7 (.act 8 (.free 9 (.free 10 (.free 11 (.free 12 (.free 13 .nil)))))))))))))) (.alt 2 (.alt 0 (.alt 3 (.alt 4 (.act 6 (.act 7 (.act 8 (.free 9 (.free 10 (.free 11 (.free 12 (.free 13 .nil)))))))) (.act 6 (.act 4 (.act 7 (.act 8 (.free 9 (.free 10 (.free 11 (.free 12 (.free 13 .nil)))))))))) (.alt 4 (.alt 3 (.act 6 (.act 7 (.act 8 (.free 9 (.free 10 (.free 11 (.free 12 (.free 13 .nil)))))))) (.act 6 (.act 3 (.act 7 (.act 8 (.free 9 (.free 10 (.free 11 (.free 12 (.free 13 .nil)))))))))) (.act 6 (.alt 3 (.act 4 (.act 7 (.act 8 (.free 9 (.free 10 (.free 11 (.free 12 (.free 13 .nil)))))))) (.act 4 (.act 3 (.act 7 (.act 8 (.free 9 (.free 10 (.free 11 (.free 12 (.free 13 .nil))))))))))))) (.alt 4 (.alt 0 (.alt 3 (.act 6 (.act 7 (.act 8 (.free 9 (.free 10 (.free 11 (.free 12 (.free 13 .nil)))))))) (.act 6 (.act 3 (.act 7 (.act 8 (.free 9 (.free 10 (.free 11 (.free 12 (.free 13 .nil)))))))))) (.act 6 (.act 0 (.act 3 (.act 7 (.act 8 (.free 9 (.free 10 (.free 11 (.free 12 (.free 13 .nil))))))))))) (.act 6 (.alt 0 (.alt 3 (.act 4 (.act 7 (.act 8 (.free 9 (.free 10 (.free 11 (.free 12 (.free 13 .nil)))))))) (.act 4 (.act 3 (.act 7 (.act 8 (.free 9 (.free 10 (.free 11 (.free 12 (.free 13 .nil)))))))))) (.act 4 (.act 0 (.act 3 (.act 7 (.act 8 (.free 9 (.free 10 (.free 11 (.free 12 (.free 13 .nil)))))))))))))) (.alt 4 (.alt 0 (.alt 2 (.alt 3 (.act 6 (.act 7 (.act 8 (.free 9 (.free 10 (.free 11 (.free 12 (.free 13 .nil)))))))) (.act 6 (.act 3 (.act 7 (.act 8 (.free 9 (.free 10 (.free 11 (.free 12 (.free 13 .nil)))))))))) (.act 6 (.act 2 (.act 3 (.act 7 (.act 8 (.free 9 (.free 10 (.free 11 (.free 12 (.free 13 .nil))))))))))) (.alt 2 (.alt 0 (.alt 3 (.act 6 (.act 7 (.act 8 (.free 9 (.free 10 (.free 11 (.free 12 (.free 13 .nil)))))))) (.act 6 (.act 3 (.act 7 (.act 8 (.free 9 (.free 10 (.free 11 (.free 12 (.free 13 .nil)))))))))) (.act 6 (.act 0 (.act 3 (.act 7 (.act 8 (.free 9 (.free 10 (.free 11 (.free 12 (.free 13 .nil))))))))))) (.act 6 (.alt 0 (.act 2 (.act 3 (.act 7 (.act 8 (.free 9 (.free 10 (.free 11 (.free 12 (.free 13 .nil))))))))) (.act 2 (.act 0 (.act 3 (.act 7 (.act 8 (.free 9 (.free 10 (.free 11 (.free 12 (.free 13 .nil)))))))))))))) (.act 6 (.alt 0 (.alt 2 (.alt 3 (.act 4 (.act 7 (.act 8 (.free 9 (.free 10 (.free 11 (.free 12 (.free 13 .nil)))))))) (.act 4 (.act 3 (.act 7 (.act 8 (.free 9 (.free 10 (.free 11 (.free 12 (.free 13 .nil)))))))))) (.act 4 (.act 2 (.act 3 (.act 7 (.act 8 (.free 9 (.free 10 (.free 11 (.free 12 (.free 13 .nil))))))))))) (.alt 2 (.alt 0 (.alt 3 (.act 4 (.act 7 (.act 8 (.free 9 (.free 10 (.free 11 (.free 12 (.free 13 .nil)))))))) (.act 4 (.act 3 (.act 7 (.act 8 (.free 9 (.free 10 (.free 11 (.free 12 (.free 13 .nil)))))))))) (.act 4 (.act 0 (.act 3 (.act 7 (.act 8 (.free 9 (.free 10 (.free 11 (.free 12 (.free 13 .nil))))))))))) (.act 4 (.alt 0 (.act 2 (.act 3 (.act 7 (.act 8 (.free 9 (.free 10 (.free 11 (.free 12 (.free 13 .nil))))))))) (.act 2 (.act 0 (.act 3 (.act 7 (.act 8 (.free 9 (.free 10 (.free 11 (.free 12 (.free 13 .nil)))))))))))))))))))) (by kernel_rfl) hF (by kernel_rfl) (by kernel_rfl) ?_
 clear hF; rintro w hF -
 refine ⟨fun wq => FR w0 [] [(b2, .cells #[.int .i64 (3), .string (bs ([50])), .slice (none) (0) (0), .slice (none) (0) (0)] 25), (b1, .cells #[.int .i64 (3), .string (bs ([49])), .slice (none) (0) (0), .slice (none) (0) (0)] 25)] wq, hF, ?_⟩
 refine f_free rfl (v := .agg #[.int .i64 (3), .string (bs ([49])), .slice (none) (0) (0), .slice (none) (0) (0)]) (fun w hC => x_loadS (l := [.int .i64 (3), .string (bs ([49])), .slice (none) (0) (0), .slice (none) (0) (0)]) Tryz.isAgg25 Tryz.sizeOf25 rfl rfl (hC.cellsAll 1 rfl)) (f_free rfl (v := .agg #[.int .i64 (3), .string (bs ([49])), .slice (none) (0) (0), .slice (none) (0) (0)]) (fun w hC => x_loadS (l := [.int .i64 (3), .string (bs ([49])), .slice (none) (0) (0), .slice (none) (0) (0)]) Tryz.isAgg25 Tryz.sizeOf25 rfl rfl (hC.cellsAll 1 rfl)) ?_)
 refine d_alt ?_ ?_
 refine f_new rfl (v := fun b => .slice (some ⟨b, 0, none⟩) 1 1) hF (x_buildSlice (cs := #[.string (bs ([97]))]) Tryz.underlying22 Tryz.sizeOf9 Tryz.zeroValue9 (by decide) (by decide) (by kernel_rfl)) ?_
 clear hF; rintro b11 w hb11 hF -
 refine ⟨hF.sub (.cons _ (.cons_cons _ (.cons_cons _ .slnil))), ?_⟩
 refine d_alt ?_ ?_
 refine f_new rfl (v := fun b => .slice (some ⟨b, 0, none⟩) 1 1) hF (x_buildSlice (cs := #[.int .i64 (3), .string (bs ([49])), .slice (none) (0) (0), .slice (none) (0) (0)]) Tryz.underlying23 Tryz.sizeOf25 Tryz.zeroValue25 (by decide) (by decide) (by kernel_rfl)) ?_
 clear hF; rintro b12 w hb12 hF -
 refine ⟨hF.sub (.cons _ (.cons _ (.cons_cons _ (.cons_cons _ .slnil)))), ?_⟩
 refine d_alt ?_ ?_
 refine f_call rfl (map_c (some ⟨b11, 0, none⟩) 1 1 (some ⟨b12, 0, none⟩) 1 1 _) (x_call2 en_23 rfl rfl rfl) ?_
 rintro _ w ⟨rfl, hE⟩
 replace hF := hF.ext hE
 clear hE
 refine ⟨hF.sub (.cons _ (.cons _ (.cons_cons _ (.cons_cons _ .slnil)))), ?_⟩
 refine d_alt ?_ ?_
 refine f_new rfl (v := fun b => .slice (some ⟨b, 0, none⟩) 1 1) hF (x_buildSlice (cs := #[.string (bs ([98]))]) Tryz.underlying22 Tryz.sizeOf9 Tryz.zeroValue9 (by decide) (by decide) (by kernel_rfl)) ?_
 clear hF; rintro b13 w hb13 hF -
 refine ⟨hF.sub (.cons _ (.cons _ (.cons _ (.cons_cons _ (.cons_cons _ .slnil))))), ?_⟩
 refine f_new rfl (v := fun b => .slice (some ⟨b, 0, none⟩) 1 1) hF (x_buildSlice (cs := #[.int .i64 (3), .string (bs ([49])), .slice (none) (0) (0), .slice (none) (0) (0)]) Tryz.underlying23 Tryz.sizeOf25 Tryz.zeroValue25 (by decide) (by decide) (by kernel_rfl)) ?_
 clear hF; rintro b14 w hb14 hF -
 refine ⟨hF.sub (.cons _ (.cons _ (.cons _ (.cons _ (.cons_cons _ (.cons_cons _ .slnil)))))), ?_⟩
 refine f_call rfl (map_c (some ⟨b13, 0, none⟩) 1 1 (some ⟨b14, 0, none⟩) 1 1 _) (x_call2 en_23 rfl rfl rfl) ?_
 rintro _ w ⟨rfl, hE⟩
 replace hF := hF.ext hE
 clear hE
 refine ⟨hF.sub (.cons _ (.cons _ (.cons _ (.cons _ (.cons_cons _ (.cons_cons _ .slnil)))))), ?_⟩
 have hx_ : RX w0 [] w [treeD taT] [.int .i64 (6), .string (bs ([])), .slice (some ⟨b11, 0, none⟩) (1) (1), .slice (some ⟨b12, 0, none⟩) (1) (1)] := RX.tree ⟨by omega, by omega⟩ (by simp) (hF.rowX (ids := []) 3 rfl (RX.strs (ks := [[97]]) (by simp)) (by simp) rfl (by omega)) (hF.rowX (ids := []) 2 rfl (RX.num [49] (by simp)) (by simp) rfl (by simp [treesD]))
 have hy_ : RX w0 [] w [treeD tbT] [.int .i64 (6), .string (bs ([])), .slice (some ⟨b13, 0, none⟩) (1) (1), .slice (some ⟨b14, 0, none⟩) (1) (1)] := RX.tree ⟨by omega, by omega⟩ (by simp) (hF.rowX (ids := []) 1 rfl (RX.strs (ks := [[98]]) (by simp)) (by simp) rfl (by omega)) (hF.rowX (ids := []) 0 rfl (RX.num [49] (by simp)) (by simp) rfl (by simp [treesD]))
 refine f_call rfl ((by have h := between_c taT tbT _ _ _ [.int .i64 (6), .string (bs ([])), .slice (some ⟨b11, 0, none⟩) (1) (1), .slice (some ⟨b12, 0, none⟩) (1) (1)] [.int .i64 (6), .string (bs ([])), .slice (some ⟨b13, 0, none⟩) (1) (1), .slice (some ⟨b14, 0, none⟩) (1) (1)] hx_.rep hy_.rep (hG.ext hF.same) (by decide) (by decide) (by decide) (by decide); rw [bet_4.1, bet_4.2] at h; exact h)) (x_call2 en_11 rfl rfl rfl) ?_
 rintro _ w ⟨rfl, hE⟩
 replace hF := hF.ext hE
 clear hE
 refine ⟨hF.sub (.cons _ (.cons _ (.cons _ (.cons _ (.cons_cons _ (.cons_cons _ .slnil)))))), ?_⟩
 refine f_free rfl (v := .tuple #[.int .i64 (1), .int .i64 (0)]) (fun w hC => x_move rfl) (f_free rfl (v := .int .i64 (1)) (fun w hC => x_extract rfl rfl) (f_free rfl (v := .int .i64 (0)) (fun w hC => x_extract rfl rfl) (f_free rfl (v := .int .i64 (1)) (fun w hC => x_assign rfl) (f_free rfl (v := .int .i64 (0)) (fun w hC => x_assign rfl) (d_nil ?_)))))
 exact e_inv ⟨⟨rfl, rfl, rfl, rfl, rfl, rfl, rfl, rfl, rfl, trivial⟩, ((((((hF.front 5 rfl).front 5 rfl).erase 2).erase 2).erase 2).erase 2)⟩
 refine f_new rfl (v := fun b => .slice (some ⟨b, 0, none⟩) 1 1) hF (x_buildSlice (cs := #[.int .i64 (3), .string (bs ([49])), .slice (none) (0) (0), .slice (none) (0) (0)]) Tryz.underlying23 Tryz.sizeOf25 Tryz.zeroValue25 (by decide) (by decide) (by kernel_rfl)) ?_
 clear hF; rintro b15 w hb15 hF -
 refine ⟨hF.sub (.cons _ (.cons _ (.cons _ (.cons_cons _ (.cons_cons _ .slnil))))), ?_⟩
 refine f_new rfl (v := fun b => .slice (some ⟨b, 0, none⟩) 1 1) hF (x_buildSlice (cs := #[.string (bs ([98]))]) Tryz.underlying22 Tryz.sizeOf9 Tryz.zeroValue9 (by decide) (by decide) (by kernel_rfl)) ?_
 clear hF; rintro b16 w hb16 hF -
 refine ⟨hF.sub (.cons _ (.cons _ (.cons _ (.cons _ (.cons_cons _ (.cons_cons _ .slnil)))))), ?_⟩
 refine f_call rfl (map_c (some ⟨b16, 0, none⟩) 1 1 (some ⟨b15, 0, none⟩) 1 1 _) (x_call2 en_23 rfl rfl rfl) ?_
 rintro _ w ⟨rfl, hE⟩
 replace hF := hF.ext hE
 clear hE
 refine ⟨hF.sub (.cons _ (.cons _ (.cons _ (.cons _ (.cons_cons _ (.cons_cons _ .slnil)))))), ?_⟩
 have hx_ : RX w0 [] w [treeD taT] [.int .i64 (6), .string (bs ([])), .slice (some ⟨b11, 0, none⟩) (1) (1), .slice (some ⟨b12, 0, none⟩) (1) (1)] := RX.tree ⟨by omega, by omega⟩ (by simp) (hF.rowX (ids := []) 3 rfl (RX.strs (ks := [[97]]) (by simp)) (by simp) rfl (by omega)) (hF.rowX (ids := []) 2 rfl (RX.num [49] (by simp)) (by simp) rfl (by simp [treesD]))
 have hy_ : RX w0 [] w [treeD tbT] [.int .i64 (6), .string (bs ([])), .slice (some ⟨b16, 0, none⟩) (1) (1), .slice (some ⟨b15, 0, none⟩) (1) (1)] := RX.tree ⟨by omega, by omega⟩ (by simp) (hF.rowX (ids := []) 0 rfl (RX.strs (ks := [[98]]) (by simp)) (by simp) rfl (by omega)) (hF.rowX (ids := []) 1 rfl (RX.num [49] (by simp)) (by simp) rfl (by simp [treesD]))
 refine f_call rfl ((by have h := between_c taT tbT _ _ _ [.int .i64 (6), .string (bs ([])), .slice (some ⟨b11, 0, none⟩) (1) (1), .slice (some ⟨b12, 0, none⟩) (1) (1)] [.int .i64 (6), .string (bs ([])), .slice (some ⟨b16, 0, none⟩) (1) (1), .slice (some ⟨b15, 0, none⟩) (1) (1)] hx_.rep hy_.rep (hG.ext hF.same) (by decide) (by decide) (by decide) (by decide); rw [bet_4.1, bet_4.2] at h; exact h)) (x_call2 en_11 rfl rfl rfl) ?_
 rintro _ w ⟨rfl, hE⟩
 replace hF := hF.ext hE
 clear hE
 refine ⟨hF.sub (.cons _ (.cons _ (.cons _ (.cons _ (.cons_cons _ (.cons_cons _ .slnil)))))), ?_⟩
 refine f_free rfl (v := .tuple #[.int .i64 (1), .int .i64 (0)]) (fun w hC => x_move rfl) (f_free rfl (v := .int .i64 (1)) (fun w hC => x_extract rfl rfl) (f_free rfl (v := .int .i64 (0)) (fun w hC => x_extract rfl rfl) (f_free rfl (v := .int .i64 (1)) (fun w hC => x_assign rfl) (f_free rfl (v := .int .i64 (0)) (fun w hC => x_assign rfl) (d_nil ?_)))))
 exact e_inv ⟨⟨rfl, rfl, rfl, rfl, rfl, rfl, rfl, rfl, rfl, trivial⟩, ((((((hF.front 5 rfl).front 5 rfl).erase 2).erase 2).erase 2).erase 2)⟩
 refine d_alt ?_ ?_
 refine f_new rfl (v := fun b => .slice (some ⟨b, 0, none⟩) 1 1) hF (x_buildSlice (cs := #[.string (bs ([98]))]) Tryz.underlying22 Tryz.sizeOf9 Tryz.zeroValue9 (by decide) (by decide) (by kernel_rfl)) ?_
 clear hF; rintro b17 w hb17 hF -
 refine ⟨hF.sub (.cons _ (.cons _ (.cons _ (.cons_cons _ (.cons_cons _ .slnil))))), ?_⟩
 refine d_alt ?_ ?_
 refine f_call rfl (map_c (some ⟨b11, 0, none⟩) 1 1 (some ⟨b12, 0, none⟩) 1 1 _) (x_call2 en_23 rfl rfl rfl) ?_
 rintro _ w ⟨rfl, hE⟩
 replace hF := hF.ext hE
 clear hE
 refine ⟨hF.sub (.cons _ (.cons _ (.cons _ (.cons_cons _ (.cons_cons _ .slnil))))), ?_⟩
 refine f_new rfl (v := fun b => .slice (some ⟨b, 0, none⟩) 1 1) hF (x_buildSlice (cs := #[.int .i64 (3), .string (bs ([49])), .slice (none) (0) (0), .slice (none) (0) (0)]) Tryz.underlying23 Tryz.sizeOf25 Tryz.zeroValue25 (by decide) (by decide) (by kernel_rfl)) ?_
 clear hF; rintro b18 w hb18 hF -
 refine ⟨hF.sub (.cons _ (.cons _ (.cons _ (.cons _ (.cons_cons _ (.cons_cons _ .slnil)))))), ?_⟩
 refine f_call rfl (map_c (some ⟨b17, 0, none⟩) 1 1 (some ⟨b18, 0, none⟩) 1 1 _) (x_call2 en_23 rfl rfl rfl) ?_
 rintro _ w ⟨rfl, hE⟩
 replace hF := hF.ext hE
 clear hE
 refine ⟨hF.sub (.cons _ (.cons _ (.cons _ (.cons _ (.cons_cons _ (.cons_cons _ .slnil)))))), ?_⟩
 have hx_ : RX w0 [] w [treeD taT] [.int .i64 (6), .string (bs ([])), .slice (some ⟨b11, 0, none⟩) (1) (1), .slice (some ⟨b12, 0, none⟩) (1) (1)] := RX.tree ⟨by omega, by omega⟩ (by simp) (hF.rowX (ids := []) 3 rfl (RX.strs (ks := [[97]]) (by simp)) (by simp) rfl (by omega)) (hF.rowX (ids := []) 2 rfl (RX.num [49] (by simp)) (by simp) rfl (by simp [treesD]))
 have hy_ : RX w0 [] w [treeD tbT] [.int .i64 (6), .string (bs ([])), .slice (some ⟨b17, 0, none⟩) (1) (1), .slice (some ⟨b18, 0, none⟩) (1) (1)] := RX.tree ⟨by omega, by omega⟩ (by simp) (hF.rowX (ids := []) 1 rfl (RX.strs (ks := [[98]]) (by simp)) (by simp) rfl (by omega)) (hF.rowX (ids := []) 0 rfl (RX.num [49] (by simp)) (by simp) rfl (by simp [treesD]))
 refine f_call rfl ((by have h := between_c taT tbT _ _ _ [.int .i64 (6), .string (bs ([])), .slice (some ⟨b11, 0, none⟩) (1) (1), .slice (some ⟨b12, 0, none⟩) (1) (1)] [.int .i64 (6), .string (bs ([])), .slice (some ⟨b17, 0, none⟩) (1) (1), .slice (some ⟨b18, 0, none⟩) (1) (1)] hx_.rep hy_.rep (hG.ext hF.same) (by decide) (by decide) (by decide) (by decide); rw [bet_4.1, bet_4.2] at h; exact h)) (x_call2 en_11 rfl rfl rfl) ?_
 rintro _ w ⟨rfl, hE⟩
 replace hF := hF.ext hE
 clear hE
 refine ⟨hF.sub (.cons _ (.cons _ (.cons _ (.cons _ (.cons_cons _ (.cons_cons _ .slnil)))))), ?_⟩
 refine f_free rfl (v := .tuple #[.int .i64 (1), .int .i64 (0)]) (fun w hC => x_move rfl) (f_free rfl (v := .int .i64 (1)) (fun w hC => x_extract rfl rfl) (f_free rfl (v := .int .i64 (0)) (fun w hC => x_extract rfl rfl) (f_free rfl (v := .int .i64 (1)) (fun w hC => x_assign rfl) (f_free rfl (v := .int .i64 (0)) (fun w hC => x_assign rfl) (d_nil ?_)))))
 exact e_inv ⟨⟨rfl, rfl, rfl, rfl, rfl, rfl, rfl, rfl, rfl, trivial⟩, ((((((hF.front 5 rfl).front 5 rfl).erase 2).erase 2).erase 2).erase 2)⟩
 refine f_new rfl (v := fun b => .slice (some ⟨b, 0, none⟩) 1 1) hF (x_buildSlice (cs := #[.int .i64 (3), .string (bs ([49])), .slice (none) (0) (0), .slice (none) (0) (0)]) Tryz.underlying23 Tryz.sizeOf25 Tryz.zeroValue25 (by decide) (by decide) (by kernel_rfl)) ?_
 clear hF; rintro b19 w hb19 hF -
 refine ⟨hF.sub (.cons _ (.cons _ (.cons _ (.cons _ (.cons_cons _ (.cons_cons _ .slnil)))))), ?_⟩
 refine f_call rfl (map_c (some ⟨b11, 0, none⟩) 1 1 (some ⟨b12, 0, none⟩) 1 1 _) (x_call2 en_23 rfl rfl rfl) ?_
 rintro _ w ⟨rfl, hE⟩
 replace hF := hF.ext hE
 clear hE
 refine ⟨hF.sub (.cons _ (.cons _ (.cons _ (.cons _ (.cons_cons _ (.cons_cons _ .slnil)))))), ?_⟩
 refine f_call rfl (map_c (some ⟨b17, 0, none⟩) 1 1 (some ⟨b19, 0, none⟩) 1 1 _) (x_call2 en_23 rfl rfl rfl) ?_
 rintro _ w ⟨rfl, hE⟩
 replace hF := hF.ext hE
 clear hE
 refine ⟨hF.sub (.cons _ (.cons _ (.cons _ (.cons _ (.cons_cons _ (.cons_cons _ .slnil)))))), ?_⟩
 have hx_ : RX w0 [] w [treeD taT] [.int .i64 (6), .string (bs ([])), .slice (some ⟨b11, 0, none⟩) (1) (1), .slice (some ⟨b12, 0, none⟩) (1) (1)] := RX.tree ⟨by omega, by omega⟩ (by simp) (hF.rowX (ids := []) 3 rfl (RX.strs (ks := [[97]]) (by simp)) (by simp) rfl (by omega)) (hF.rowX (ids := []) 2 rfl (RX.num [49] (by simp)) (by simp) rfl (by simp [treesD]))
 have hy_ : RX w0 [] w [treeD tbT] [.int .i64 (6), .string (bs ([])), .slice (some ⟨b17, 0, none⟩) (1) (1), .slice (some ⟨b19, 0, none⟩) (1) (1)] := RX.tree ⟨by omega, by omega⟩ (by simp) (hF.rowX (ids := []) 1 rfl (RX.strs (ks := [[98]]) (by simp)) (by simp) rfl (by omega)) (hF.rowX (ids := []) 0 rfl (RX.num [49] (by simp)) (by simp) rfl (by simp [treesD]))
 refine f_call rfl ((by have h := between_c taT tbT _ _ _ [.int .i64 (6), .string (bs ([])), .slice (some ⟨b11, 0, none⟩) (1) (1), .slice (some ⟨b12, 0, none⟩) (1) (1)] [.int .i64 (6), .string (bs ([])), .slice (some ⟨b17, 0, none⟩) (1) (1), .slice (some ⟨b19, 0, none⟩) (1) (1)] hx_.rep hy_.rep (hG.ext hF.same) (by decide) (by decide) (by decide) (by decide); rw [bet_4.1, bet_4.2] at h; exact h)) (x_call2 en_11 rfl rfl rfl) ?_
 rintro _ w ⟨rfl, hE⟩
 replace hF := hF.ext hE
 clear hE
 refine ⟨hF.sub (.cons _ (.cons _ (.cons _ (.cons _ (.cons_cons _ (.cons_cons _ .slnil)))))), ?_⟩
 refine f_free rfl (v := .tuple #[.int .i64 (1), .int .i64 (0)]) (fun w hC => x_move rfl) (f_free rfl (v := .int .i64 (1)) (fun w hC => x_extract rfl rfl) (f_free rfl (v := .int .i64 (0)) (fun w hC => x_extract rfl rfl) (f_free rfl (v := .int .i64 (1)) (fun w hC => x_assign rfl) (f_free rfl (v := .int .i64 (0)) (fun w hC => x_assign rfl) (d_nil ?_)))))
 exact e_inv ⟨⟨rfl, rfl, rfl, rfl, rfl, rfl, rfl, rfl, rfl, trivial⟩, ((((((hF.front 5 rfl).front 5 rfl).erase 2).erase 2).erase 2).erase 2)⟩
 refine f_new rfl (v := fun b => .slice (some ⟨b, 0, none⟩) 1 1) hF (x_buildSlice (cs := #[.int .i64 (3), .string (bs ([49])), .slice (none) (0) (0), .slice (none) (0) (0)]) Tryz.underlying23 Tryz.sizeOf25 Tryz.zeroValue25 (by decide) (by decide) (by kernel_rfl)) ?_
 clear hF; rintro b20 w hb20 hF -
 refine ⟨hF.sub (.cons _ (.cons _ (.cons _ (.cons_cons _ (.cons_cons _ .slnil))))), ?_⟩
 refine d_alt ?_ ?_
 refine f_call rfl (map_c (some ⟨b11, 0, none⟩) 1 1 (some ⟨b12, 0, none⟩) 1 1 _) (x_call2 en_23 rfl rfl rfl) ?_
 rintro _ w ⟨rfl, hE⟩
 replace hF := hF.ext hE
 clear hE
 refine ⟨hF.sub (.cons _ (.cons _ (.cons _ (.cons_cons _ (.cons_cons _ .slnil))))), ?_⟩
 refine f_new rfl (v := fun b => .slice (some ⟨b, 0, none⟩) 1 1) hF (x_buildSlice (cs := #[.string (bs ([98]))]) Tryz.underlying22 Tryz.sizeOf9 Tryz.zeroValue9 (by decide) (by decide) (by kernel_rfl)) ?_
 clear hF; rintro b21 w hb21 hF -
 refine ⟨hF.sub (.cons _ (.cons _ (.cons _ (.cons _ (.cons_cons _ (.cons_cons _ .slnil)))))), ?_⟩
 refine f_call rfl (map_c (some ⟨b21, 0, none⟩) 1 1 (some ⟨b20, 0, none⟩) 1 1 _) (x_call2 en_23 rfl rfl rfl) ?_
 rintro _ w ⟨rfl, hE⟩
 replace hF := hF.ext hE
 clear hE
 refine ⟨hF.sub (.cons _ (.cons _ (.cons _ (.cons _ (.cons_cons _ (.cons_cons _ .slnil)))))), ?_⟩
 have hx_ : RX w0 [] w [treeD taT] [.int .i64 (6), .string (bs ([])), .slice (some ⟨b11, 0, none⟩) (1) (1), .slice (some ⟨b12, 0, none⟩) (1) (1)] := RX.tree ⟨by omega, by omega⟩ (by simp) (hF.rowX (ids := []) 3 rfl (RX.strs (ks := [[97]]) (by simp)) (by simp) rfl (by omega)) (hF.rowX (ids := []) 2 rfl (RX.num [49] (by simp)) (by simp) rfl (by simp [treesD]))
 have hy_ : RX w0 [] w [treeD tbT] [.int .i64 (6), .string (bs ([])), .slice (some ⟨b21, 0, none⟩) (1) (1), .slice (some ⟨b20, 0, none⟩) (1) (1)] := RX.tree ⟨by omega, by omega⟩ (by simp) (hF.rowX (ids := []) 0 rfl (RX.strs (ks := [[98]]) (by simp)) (by simp) rfl (by omega)) (hF.rowX (ids := []) 1 rfl (RX.num [49] (by simp)) (by simp) rfl (by simp [treesD]))
 refine f_call rfl ((by have h := between_c taT tbT _ _ _ [.int .i64 (6), .string (bs ([])), .slice (some ⟨b11, 0, none⟩) (1) (1), .slice (some ⟨b12, 0, none⟩) (1) (1)] [.int .i64 (6), .string (bs ([])), .slice (some ⟨b21, 0, none⟩) (1) (1), .slice (some ⟨b20, 0, none⟩) (1) (1)] hx_.rep hy_.rep (hG.ext hF.same) (by decide) (by decide) (by decide) (by decide); rw [bet_4.1, bet_4.2] at h; exact h)) (x_call2 en_11 rfl rfl rfl) ?_
 rintro _ w ⟨rfl, hE⟩
 replace hF := hF.ext hE
 clear hE
 refine ⟨hF.sub (.cons _ (.cons _ (.cons _ (.cons _ (.cons_cons _ (.cons_cons _ .slnil)))))), ?_⟩
 refine f_free rfl (v := .tuple #[.int .i64 (1), .int .i64 (0)]) (fun w hC => x_move rfl) (f_free rfl (v := .int .i64 (1)) (fun w hC => x_extract rfl rfl) (f_free rfl (v := .int .i64 (0)) (fun w hC => x_extract rfl rfl) (f_free rfl (v := .int .i64 (1)) (fun w hC => x_assign rfl) (f_free rfl (v := .int .i64 (0)) (fun w hC => x_assign rfl) (d_nil ?_)))))
 exact e_inv ⟨⟨rfl, rfl, rfl, rfl, rfl, rfl, rfl, rfl, rfl, trivial⟩, ((((((hF.front 5 rfl).front 5 rfl).erase 2).erase 2).erase 2).erase 2)⟩
 refine f_new rfl (v := fun b => .slice (some ⟨b, 0, none⟩) 1 1) hF (x_buildSlice (cs := #[.string (bs ([98]))]) Tryz.underlying22 Tryz.sizeOf9 Tryz.zeroValue9 (by decide) (by decide) (by kernel_rfl)) ?_
 clear hF; rintro b22 w hb22 hF -
 refine ⟨hF.sub (.cons _ (.cons _ (.cons _ (.cons _ (.cons_cons _ (.cons_cons _ .slnil)))))), ?_⟩
 refine f_call rfl (map_c (some ⟨b11, 0, none⟩) 1 1 (some ⟨b12, 0, none⟩) 1 1 _) (x_call2 en_23 rfl rfl rfl) ?_
 rintro _ w ⟨rfl, hE⟩
 replace hF := hF.ext hE
 clear hE
 refine ⟨hF.sub (.cons _ (.cons _ (.cons _ (.cons _ (.cons_cons _ (.cons_cons _ .slnil)))))), ?_⟩
 refine f_call rfl (map_c (some ⟨b22, 0, none⟩) 1 1 (some ⟨b20, 0, none⟩) 1 1 _) (x_call2 en_23 rfl rfl rfl) ?_
 rintro _ w ⟨rfl, hE⟩
 replace hF := hF.ext hE
 clear hE
 refine ⟨hF.sub (.cons _ (.cons _ (.cons _ (.cons _ (.cons_cons _ (.cons_cons _ .slnil)))))), ?_⟩
 have hx_ : RX w0 [] w [treeD taT] [.int .i64 (6), .string (bs ([])), .slice (some ⟨b11, 0, none⟩) (1) (1), .slice (some ⟨b12, 0, none⟩) (1) (1)] := RX.tree ⟨by omega, by omega⟩ (by simp) (hF.rowX (ids := []) 3 rfl (RX.strs (ks := [[97]]) (by simp)) (by simp) rfl (by omega)) (hF.rowX (ids := []) 2 rfl (RX.num [49] (by simp)) (by simp) rfl (by simp [treesD]))
 have hy_ : RX w0 [] w [treeD tbT] [.int .i64 (6), .string (bs ([])), .slice (some ⟨b22, 0, none⟩) (1) (1), .slice (some ⟨b20, 0, none⟩) (1) (1)] := RX.tree ⟨by omega, by omega⟩ (by simp) (hF.rowX (ids := []) 0 rfl (RX.strs (ks := [[98]]) (by simp)) (by simp) rfl (by omega)) (hF.rowX (ids := []) 1 rfl (RX.num [49] (by simp)) (by simp) rfl (by simp [treesD]))
 refine f_call rfl ((by have h := between_c taT tbT _ _ _ [.int .i64 (6), .string (bs ([])), .slice (some ⟨b11, 0, none⟩) (1) (1), .slice (some ⟨b12, 0, none⟩) (1) (1)] [.int .i64 (6), .string (bs ([])), .slice (some ⟨b22, 0, none⟩) (1) (1), .slice (some ⟨b20, 0, none⟩) (1) (1)] hx_.rep hy_.rep (hG.ext hF.same) (by decide) (by decide) (by decide) (by decide); rw [bet_4.1, bet_4.2] at h; exact h)) (x_call2 en_11 rfl rfl rfl) ?_
 rintro _ w ⟨rfl, hE⟩
 replace hF := hF.ext hE
 clear hE
 refine ⟨hF.sub (.cons _ (.cons _ (.cons _ (.cons _ (.cons_cons _ (.cons_cons _ .slnil)))))), ?_⟩
 refine f_free rfl (v := .tuple #[.int .i64 (1), .int .i64 (0)]) (fun w hC => x_move rfl) (f_free rfl (v := .int .i64 (1)) (fun w hC => x_extract rfl rfl) (f_free rfl (v := .int .i64 (0)) (fun w hC => x_extract rfl rfl) (f_free rfl (v := .int .i64 (1)) (fun w hC => x_assign rfl) (f_free rfl (v := .int .i64 (0)) (fun w hC => x_assign rfl) (d_nil ?_)))))
 exact e_inv ⟨⟨rfl, rfl, rfl, rfl, rfl, rfl, rfl, rfl, rfl, trivial⟩, ((((((hF.front 5 rfl).front 5 rfl).erase 2).erase 2).erase 2).erase 2)⟩
 refine d_alt ?_ ?_
 refine f_new rfl (v := fun b => .slice (some ⟨b, 0, none⟩) 1 1) hF (x_buildSlice (cs := #[.string (bs ([98]))]) Tryz.underlying22 Tryz.sizeOf9 Tryz.zeroValue9 (by decide) (by decide) (by kernel_rfl)) ?_
 clear hF; rintro b23 w hb23 hF -
 refine ⟨hF.sub (.cons _ (.cons _ (.cons_cons _ (.cons_cons _ .slnil)))), ?_⟩
 refine d_alt ?_ ?_
 refine f_new rfl (v := fun b => .slice (some ⟨b, 0, none⟩) 1 1) hF (x_buildSlice (cs := #[.int .i64 (3), .string (bs ([49])), .slice (none) (0) (0), .slice (none) (0) (0)]) Tryz.underlying23 Tryz.sizeOf25 Tryz.zeroValue25 (by decide) (by decide) (by kernel_rfl)) ?_
 clear hF; rintro b24 w hb24 hF -
 refine ⟨hF.sub (.cons _ (.cons _ (.cons _ (.cons_cons _ (.cons_cons _ .slnil))))), ?_⟩
 refine d_alt ?_ ?_
 refine f_call rfl (map_c (some ⟨b11, 0, none⟩) 1 1 (some ⟨b24, 0, none⟩) 1 1 _) (x_call2 en_23 rfl rfl rfl) ?_
 rintro _ w ⟨rfl, hE⟩
 replace hF := hF.ext hE
 clear hE
 refine ⟨hF.sub (.cons _ (.cons _ (.cons _ (.cons_cons _ (.cons_cons _ .slnil))))), ?_⟩
 refine f_new rfl (v := fun b => .slice (some ⟨b, 0, none⟩) 1 1) hF (x_buildSlice (cs := #[.int .i64 (3), .string (bs ([49])), .slice (none) (0) (0), .slice (none) (0) (0)]) Tryz.underlying23 Tryz.sizeOf25 Tryz.zeroValue25 (by decide) (by decide) (by kernel_rfl)) ?_
 clear hF; rintro b25 w hb25 hF -
 refine ⟨hF.sub (.cons _ (.cons _ (.cons _ (.cons _ (.cons_cons _ (.cons_cons _ .slnil)))))), ?_⟩
 refine f_call rfl (map_c (some ⟨b23, 0, none⟩) 1 1 (some ⟨b25, 0, none⟩) 1 1 _) (x_call2 en_23 rfl rfl rfl) ?_
 rintro _ w ⟨rfl, hE⟩
 replace hF := hF.ext hE
 clear hE
 refine ⟨hF.sub (.cons _ (.cons _ (.cons _ (.cons _ (.cons_cons _ (.cons_cons _ .slnil)))))), ?_⟩
 have hx_ : RX w0 [] w [treeD taT] [.int .i64 (6), .string (bs ([])), .slice (some ⟨b11, 0, none⟩) (1) (1), .slice (some ⟨b24, 0, none⟩) (1) (1)] := RX.tree ⟨by omega, by omega⟩ (by simp) (hF.rowX (ids := []) 3 rfl (RX.strs (ks := [[97]]) (by simp)) (by simp) rfl (by omega)) (hF.rowX (ids := []) 1 rfl (RX.num [49] (by simp)) (by simp) rfl (by simp [treesD]))
 have hy_ : RX w0 [] w [treeD tbT] [.int .i64 (6), .string (bs ([])), .slice (some ⟨b23, 0, none⟩) (1) (1), .slice (some ⟨b25, 0, none⟩) (1) (1)] := RX.tree ⟨by omega, by omega⟩ (by simp) (hF.rowX (ids := []) 2 rfl (RX.strs (ks := [[98]]) (by simp)) (by simp) rfl (by omega)) (hF.rowX (ids := []) 0 rfl (RX.num [49] (by simp)) (by simp) rfl (by simp [treesD]))
 refine f_call rfl ((by have h := between_c taT tbT _ _ _ [.int .i64 (6), .string (bs ([])), .slice (some ⟨b11, 0, none⟩) (1) (1), .slice (some ⟨b24, 0, none⟩) (1) (1)] [.int .i64 (6), .string (bs ([])), .slice (some ⟨b23, 0, none⟩) (1) (1), .slice (some ⟨b25, 0, none⟩) (1) (1)] hx_.rep hy_.rep (hG.ext hF.same) (by decide) (by decide) (by decide) (by decide); rw [bet_4.1, bet_4.2] at h; exact h)) (x_call2 en_11 rfl rfl rfl) ?_
 rintro _ w ⟨rfl, hE⟩
 replace hF := hF.ext hE
 clear hE
 refine ⟨hF.sub (.cons _ (.cons _ (.cons _ (.cons _ (.cons_cons _ (.cons_cons _ .slnil)))))), ?_⟩
 refine f_free rfl (v := .tuple #[.int .i64 (1), .int .i64 (0)]) (fun w hC => x_move rfl) (f_free rfl (v := .int .i64 (1)) (fun w hC => x_extract rfl rfl) (f_free rfl (v := .int .i64 (0)) (fun w hC => x_extract rfl rfl) (f_free rfl (v := .int .i64 (1)) (fun w hC => x_assign rfl) (f_free rfl (v := .int .i64 (0)) (fun w hC => x_assign rfl) (d_nil ?_)))))
 exact e_inv ⟨⟨rfl, rfl, rfl, rfl, rfl, rfl, rfl, rfl, rfl, trivial⟩, ((((((hF.front 5 rfl).front 5 rfl).erase 2).erase 2).erase 2).erase 2)⟩
 refine f_new rfl (v := fun b => .slice (some ⟨b, 0, none⟩) 1 1) hF (x_buildSlice (cs := #[.int .i64 (3), .string (bs ([49])), .slice (none) (0) (0), .slice (none) (0) (0)]) Tryz.underlying23 Tryz.sizeOf25 Tryz.zeroValue25 (by decide) (by decide) (by kernel_rfl)) ?_
 clear hF; rintro b26 w hb26 hF -
 refine ⟨hF.sub (.cons _ (.cons _ (.cons _ (.cons _ (.cons_cons _ (.cons_cons _ .slnil)))))), ?_⟩
 refine f_call rfl (map_c (some ⟨b11, 0, none⟩) 1 1 (some ⟨b24, 0, none⟩) 1 1 _) (x_call2 en_23 rfl rfl rfl) ?_
 rintro _ w ⟨rfl, hE⟩
 replace hF := hF.ext hE
 clear hE
 refine ⟨hF.sub (.cons _ (.cons _ (.cons _ (.cons _ (.cons_cons _ (.cons_cons _ .slnil)))))), ?_⟩
 refine f_call rfl (map_c (some ⟨b23, 0, none⟩) 1 1 (some ⟨b26, 0, none⟩) 1 1 _) (x_call2 en_23 rfl rfl rfl) ?_
 rintro _ w ⟨rfl, hE⟩
 replace hF := hF.ext hE
 clear hE
 refine ⟨hF.sub (.cons _ (.cons _ (.cons _ (.cons _ (.cons_cons _ (.cons_cons _ .slnil)))))), ?_⟩
 have hx_ : RX w0 [] w [treeD taT] [.int .i64 (6), .string (bs ([])), .slice (some ⟨b11, 0, none⟩) (1) (1), .slice (some ⟨b24, 0, none⟩) (1) (1)] := RX.tree ⟨by omega, by omega⟩ (by simp) (hF.rowX (ids := []) 3 rfl (RX.strs (ks := [[97]]) (by simp)) (by simp) rfl (by omega)) (hF.rowX (ids := []) 1 rfl (RX.num [49] (by simp)) (by simp) rfl (by simp [treesD]))
 have hy_ : RX w0 [] w [treeD tbT] [.int .i64 (6), .string (bs ([])), .slice (some ⟨b23, 0, none⟩) (1) (1), .slice (some ⟨b26, 0, none⟩) (1) (1)] := RX.tree ⟨by omega, by omega⟩ (by simp) (hF.rowX (ids := []) 2 rfl (RX.strs (ks := [[98]]) (by simp)) (by simp) rfl (by omega)) (hF.rowX (ids := []) 0 rfl (RX.num [49] (by simp)) (by simp) rfl (by simp [treesD]))
 refine f_call rfl ((by have h := between_c taT tbT _ _ _ [.int .i64 (6), .string (bs ([])), .slice (some ⟨b11, 0, none⟩) (1) (1), .slice (some ⟨b24, 0, none⟩) (1) (1)] [.int .i64 (6), .string (bs ([])), .slice (some ⟨b23, 0, none⟩) (1) (1), .slice (some ⟨b26, 0, none⟩) (1) (1)] hx_.rep hy_.rep (hG.ext hF.same) (by decide) (by decide) (by decide) (by decide); rw [bet_4.1, bet_4.2] at h; exact h)) (x_call2 en_11 rfl rfl rfl) ?_
 rintro _ w ⟨rfl, hE⟩
 replace hF := hF.ext hE
 clear hE
 refine ⟨hF.sub (.cons _ (.cons _ (.cons _ (.cons _ (.cons_cons _ (.cons_cons _ .slnil)))))), ?_⟩
 refine f_free rfl (v := .tuple #[.int .i64 (1), .int .i64 (0)]) (fun w hC => x_move rfl) (f_free rfl (v := .int .i64 (1)) (fun w hC => x_extract rfl rfl) (f_free rfl (v := .int .i64 (0)) (fun w hC => x_extract rfl rfl) (f_free rfl (v := .int .i64 (1)) (fun w hC => x_assign rfl) (f_free rfl (v := .int .i64 (0)) (fun w hC => x_assign rfl) (d_nil ?_)))))
 exact e_inv ⟨⟨rfl, rfl, rfl, rfl, rfl, rfl, rfl, rfl, rfl, trivial⟩, ((((((hF.front 5 rfl).front 5 rfl).erase 2).erase 2).erase 2).erase 2)⟩
 refine f_new rfl (v := fun b => .slice (some ⟨b, 0, none⟩) 1 1) hF (x_buildSlice (cs := #[.int .i64 (3), .string (bs ([49])), .slice (none) (0) (0), .slice (none) (0) (0)]) Tryz.underlying23 Tryz.sizeOf25 Tryz.zeroValue25 (by decide) (by decide) (by kernel_rfl)) ?_
 clear hF; rintro b27 w hb27 hF -
 refine ⟨hF.sub (.cons _ (.cons _ (.cons _ (.cons_cons _ (.cons_cons _ .slnil))))), ?_⟩
 refine f_new rfl (v := fun b => .slice (some ⟨b, 0, none⟩) 1 1) hF (x_buildSlice (cs := #[.int .i64 (3), .string (bs ([49])), .slice (none) (0) (0), .slice (none) (0) (0)]) Tryz.underlying23 Tryz.sizeOf25 Tryz.zeroValue25 (by decide) (by decide) (by kernel_rfl)) ?_
 clear hF; rintro b28 w hb28 hF -
 refine ⟨hF.sub (.cons _ (.cons _ (.cons _ (.cons _ (.cons_cons _ (.cons_cons _ .slnil)))))), ?_⟩
 refine f_call rfl (map_c (some ⟨b11, 0, none⟩) 1 1 (some ⟨b28, 0, none⟩) 1 1 _) (x_call2 en_23 rfl rfl rfl) ?_
 rintro _ w ⟨rfl, hE⟩
 replace hF := hF.ext hE
 clear hE
 refine ⟨hF.sub (.cons _ (.cons _ (.cons _ (.cons _ (.cons_cons _ (.cons_cons _ .slnil)))))), ?_⟩
 refine f_call rfl (map_c (some ⟨b23, 0, none⟩) 1 1 (some ⟨b27, 0, none⟩) 1 1 _) (x_call2 en_23 rfl rfl rfl) ?_
 rintro _ w ⟨rfl, hE⟩
 replace hF := hF.ext hE
 clear hE
 refine ⟨hF.sub (.cons _ (.cons _ (.cons _ (.cons _ (.cons_cons _ (.cons_cons _ .slnil)))))), ?_⟩
 have hx_ : RX w0 [] w [treeD taT] [.int .i64 (6), .string (bs ([])), .slice (some ⟨b11, 0, none⟩) (1) (1), .slice (some ⟨b28, 0, none⟩) (1) (1)] := RX.tree ⟨by omega, by omega⟩ (by simp) (hF.rowX (ids := []) 3 rfl (RX.strs (ks := [[97]]) (by simp)) (by simp) rfl (by omega)) (hF.rowX (ids := []) 0 rfl (RX.num [49] (by simp)) (by simp) rfl (by simp [treesD]))
 have hy_ : RX w0 [] w [treeD tbT] [.int .i64 (6), .string (bs ([])), .slice (some ⟨b23, 0, none⟩) (1) (1), .slice (some ⟨b27, 0, none⟩) (1) (1)] := RX.tree ⟨by omega, by omega⟩ (by simp) (hF.rowX (ids := []) 2 rfl (RX.strs (ks := [[98]]) (by simp)) (by simp) rfl (by omega)) (hF.rowX (ids := []) 1 rfl (RX.num [49] (by simp)) (by simp) rfl (by simp [treesD]))
 refine f_call rfl ((by have h := between_c taT tbT _ _ _ [.int .i64 (6), .string (bs ([])), .slice (some ⟨b11, 0, none⟩) (1) (1), .slice (some ⟨b28, 0, none⟩) (1) (1)] [.int .i64 (6), .string (bs ([])), .slice (some ⟨b23, 0, none⟩) (1) (1), .slice (some ⟨b27, 0, none⟩) (1) (1)] hx_.rep hy_.rep (hG.ext hF.same) (by decide) (by decide) (by decide) (by decide); rw [bet_4.1, bet_4.2] at h; exact h)) (x_call2 en_11 rfl rfl rfl) ?_
 rintro _ w ⟨rfl, hE⟩
 replace hF := hF.ext hE
 clear hE
 refine ⟨hF.sub (.cons _ (.cons _ (.cons _ (.cons _ (.cons_cons _ (.cons_cons _ .slnil)))))), ?_⟩
 refine f_free rfl (v := .tuple #[.int .i64 (1), .int .i64 (0)]) (fun w hC => x_move rfl) (f_free rfl (v := .int .i64 (1)) (fun w hC => x_extract rfl rfl) (f_free rfl (v := .int .i64 (0)) (fun w hC => x_extract rfl rfl) (f_free rfl (v := .int .i64 (1)) (fun w hC => x_assign rfl) (f_free rfl (v := .int .i64 (0)) (fun w hC => x_assign rfl) (d_nil ?_)))))
 exact e_inv ⟨⟨rfl, rfl, rfl, rfl, rfl, rfl, rfl, rfl, rfl, trivial⟩, ((((((hF.front 5 rfl).front 5 rfl).erase 2).erase 2).erase 2).erase 2)⟩
 refine f_new rfl (v := fun b => .slice (some ⟨b, 0, none⟩) 1 1) hF (x_buildSlice (cs := #[.int .i64 (3), .string (bs ([49])), .slice (none) (0) (0), .slice (none) (0) (0)]) Tryz.underlying23 Tryz.sizeOf25 Tryz.zeroValue25 (by decide) (by decide) (by kernel_rfl)) ?_
 clear hF; rintro b29 w hb29 hF -
 refine ⟨hF.sub (.cons _ (.cons _ (.cons_cons _ (.cons_cons _ .slnil)))), ?_⟩
 refine d_alt ?_ ?_
 refine f_new rfl (v := fun b => .slice (some ⟨b, 0, none⟩) 1 1) hF (x_buildSlice (cs := #[.int .i64 (3), .string (bs ([49])), .slice (none) (0) (0), .slice (none) (0) (0)]) Tryz.underlying23 Tryz.sizeOf25 Tryz.zeroValue25 (by decide) (by decide) (by kernel_rfl)) ?_
 clear hF; rintro b30 w hb30 hF -
 refine ⟨hF.sub (.cons _ (.cons _ (.cons _ (.cons_cons _ (.cons_cons _ .slnil))))), ?_⟩
 refine d_alt ?_ ?_
 refine f_call rfl (map_c (some ⟨b11, 0, none⟩) 1 1 (some ⟨b30, 0, none⟩) 1 1 _) (x_call2 en_23 rfl rfl rfl) ?_
 rintro _ w ⟨rfl, hE⟩
 replace hF := hF.ext hE
 clear hE
 refine ⟨hF.sub (.cons _ (.cons _ (.cons _ (.cons_cons _ (.cons_cons _ .slnil))))), ?_⟩
 refine f_new rfl (v := fun b => .slice (some ⟨b, 0, none⟩) 1 1) hF (x_buildSlice (cs := #[.string (bs ([98]))]) Tryz.underlying22 Tryz.sizeOf9 Tryz.zeroValue9 (by decide) (by decide) (by kernel_rfl)) ?_
 clear hF; rintro b31 w hb31 hF -
 refine ⟨hF.sub (.cons _ (.cons _ (.cons _ (.cons _ (.cons_cons _ (.cons_cons _ .slnil)))))), ?_⟩
 refine f_call rfl (map_c (some ⟨b31, 0, none⟩) 1 1 (some ⟨b29, 0, none⟩) 1 1 _) (x_call2 en_23 rfl rfl rfl) ?_
 rintro _ w ⟨rfl, hE⟩
 replace hF := hF.ext hE
 clear hE
 refine ⟨hF.sub (.cons _ (.cons _ (.cons _ (.cons _ (.cons_cons _ (.cons_cons _ .slnil)))))), ?_⟩
 have hx_ : RX w0 [] w [treeD taT] [.int .i64 (6), .string (bs ([])), .slice (some ⟨b11, 0, none⟩) (1) (1), .slice (some ⟨b30, 0, none⟩) (1) (1)] := RX.tree ⟨by omega, by omega⟩ (by simp) (hF.rowX (ids := []) 3 rfl (RX.strs (ks := [[97]]) (by simp)) (by simp) rfl (by omega)) (hF.rowX (ids := []) 1 rfl (RX.num [49] (by simp)) (by simp) rfl (by simp [treesD]))
 have hy_ : RX w0 [] w [treeD tbT] [.int .i64 (6), .string (bs ([])), .slice (some ⟨b31, 0, none⟩) (1) (1), .slice (some ⟨b29, 0, none⟩) (1) (1)] := RX.tree ⟨by omega, by omega⟩ (by simp) (hF.rowX (ids := []) 0 rfl (RX.strs (ks := [[98]]) (by simp)) (by simp) rfl (by omega)) (hF.rowX (ids := []) 2 rfl (RX.num [49] (by simp)) (by simp) rfl (by simp [treesD]))
 refine f_call rfl ((by have h := between_c taT tbT _ _ _ [.int .i64 (6), .string (bs ([])), .slice (some ⟨b11, 0, none⟩) (1) (1), .slice (some ⟨b30, 0, none⟩) (1) (1)] [.int .i64 (6), .string (bs ([])), .slice (some ⟨b31, 0, none⟩) (1) (1), .slice (some ⟨b29, 0, none⟩) (1) (1)] hx_.rep hy_.rep (hG.ext hF.same) (by decide) (by decide) (by decide) (by decide); rw [bet_4.1, bet_4.2] at h; exact h)) (x_call2 en_11 rfl rfl rfl) ?_
 rintro _ w ⟨rfl, hE⟩
 replace hF := hF.ext hE
 clear hE
 refine ⟨hF.sub (.cons _ (.cons _ (.cons _ (.cons _ (.cons_cons _ (.cons_cons _ .slnil)))))), ?_⟩
 refine f_free rfl (v := .tuple #[.int .i64 (1), .int .i64 (0)]) (fun w hC => x_move rfl) (f_free rfl (v := .int .i64 (1)) (fun w hC => x_extract rfl rfl) (f_free rfl (v := .int .i64 (0)) (fun w hC => x_extract rfl rfl) (f_free rfl (v := .int .i64 (1)) (fun w hC => x_assign rfl) (f_free rfl (v := .int .i64 (0)) (fun w hC => x_assign rfl) (d_nil ?_)))))
 exact e_inv ⟨⟨rfl, rfl, rfl, rfl, rfl, rfl, rfl, rfl, rfl, trivial⟩, ((((((hF.front 5 rfl).front 5 rfl).erase 2).erase 2).erase 2).erase 2)⟩
 refine f_new rfl (v := fun b => .slice (some ⟨b, 0, none⟩) 1 1) hF (x_buildSlice (cs := #[.string (bs ([98]))]) Tryz.underlying22 Tryz.sizeOf9 Tryz.zeroValue9 (by decide) (by decide) (by kernel_rfl)) ?_
 clear hF; rintro b32 w hb32 hF -
 refine ⟨hF.sub (.cons _ (.cons _ (.cons _ (.cons _ (.cons_cons _ (.cons_cons _ .slnil)))))), ?_⟩
 refine f_call rfl (map_c (some ⟨b11, 0, none⟩) 1 1 (some ⟨b30, 0, none⟩) 1 1 _) (x_call2 en_23 rfl rfl rfl) ?_
 rintro _ w ⟨rfl, hE⟩
 replace hF := hF.ext hE
 clear hE
 refine ⟨hF.sub (.cons _ (.cons _ (.cons _ (.cons _ (.cons_cons _ (.cons_cons _ .slnil)))))), ?_⟩
 refine f_call rfl (map_c (some ⟨b32, 0, none⟩) 1 1 (some ⟨b29, 0, none⟩) 1 1 _) (x_call2 en_23 rfl rfl rfl) ?_
 rintro _ w ⟨rfl, hE⟩
 replace hF := hF.ext hE
 clear hE
 refine ⟨hF.sub (.cons _ (.cons _ (.cons _ (.cons _ (.cons_cons _ (.cons_cons _ .slnil)))))), ?_⟩
 have hx_ : RX w0 [] w [treeD taT] [.int .i64 (6), .string (bs ([])), .slice (some ⟨b11, 0, none⟩) (1) (1), .slice (some ⟨b30, 0, none⟩) (1) (1)] := RX.tree ⟨by omega, by omega⟩ (by simp) (hF.rowX (ids := []) 3 rfl (RX.strs (ks := [[97]]) (by simp)) (by simp) rfl (by omega)) (hF.rowX (ids := []) 1 rfl (RX.num [49] (by simp)) (by simp) rfl (by simp [treesD]))
 have hy_ : RX w0 [] w [treeD tbT] [.int .i64 (6), .string (bs ([])), .slice (some ⟨b32, 0, none⟩) (1) (1), .slice (some ⟨b29, 0, none⟩) (1) (1)] := RX.tree ⟨by omega, by omega⟩ (by simp) (hF.rowX (ids := []) 0 rfl (RX.strs (ks := [[98]]) (by simp)) (by simp) rfl (by omega)) (hF.rowX (ids := []) 2 rfl (RX.num [49] (by simp)) (by simp) rfl (by simp [treesD]))
 refine f_call rfl ((by have h := between_c taT tbT _ _ _ [.int .i64 (6), .string (bs ([])), .slice (some ⟨b11, 0, none⟩) (1) (1), .slice (some ⟨b30, 0, none⟩) (1) (1)] [.int .i64 (6), .string (bs ([])), .slice (some ⟨b32, 0, none⟩) (1) (1), .slice (some ⟨b29, 0, none⟩) (1) (1)] hx_.rep hy_.rep (hG.ext hF.same) (by decide) (by decide) (by decide) (by decide); rw [bet_4.1, bet_4.2] at h; exact h)) (x_call2 en_11 rfl rfl rfl) ?_
 rintro _ w ⟨rfl, hE⟩
 replace hF := hF.ext hE
 clear hE
 refine ⟨hF.sub (.cons _ (.cons _ (.cons _ (.cons _ (.cons_cons _ (.cons_cons _ .slnil)))))), ?_⟩
 refine f_free rfl (v := .tuple #[.int .i64 (1), .int .i64 (0)]) (fun w hC => x_move rfl) (f_free rfl (v := .int .i64 (1)) (fun w hC => x_extract rfl rfl) (f_free rfl (v := .int .i64 (0)) (fun w hC => x_extract rfl rfl) (f_free rfl (v := .int .i64 (1)) (fun w hC => x_assign rfl) (f_free rfl (v := .int .i64 (0)) (fun w hC => x_assign rfl) (d_nil ?_)))))
 exact e_inv ⟨⟨rfl, rfl, rfl, rfl, rfl, rfl, rfl, rfl, rfl, trivial⟩, ((((((hF.front 5 rfl).front 5 rfl).erase 2).erase 2).erase 2).erase 2)⟩
 refine f_new rfl (v := fun b => .slice (some ⟨b, 0, none⟩) 1 1) hF (x_buildSlice (cs := #[.string (bs ([98]))]) Tryz.underlying22 Tryz.sizeOf9 Tryz.zeroValue9 (by decide) (by decide) (by kernel_rfl)) ?_
 clear hF; rintro b33 w hb33 hF -
 refine ⟨hF.sub (.cons _ (.cons _ (.cons _ (.cons_cons _ (.cons_cons _ .slnil))))), ?_⟩
 refine f_new rfl (v := fun b => .slice (some ⟨b, 0, none⟩) 1 1) hF (x_buildSlice (cs := #[.int .i64 (3), .string (bs ([49])), .slice (none) (0) (0), .slice (none) (0) (0)]) Tryz.underlying23 Tryz.sizeOf25 Tryz.zeroValue25 (by decide) (by decide) (by kernel_rfl)) ?_
 clear hF; rintro b34 w hb34 hF -
 refine ⟨hF.sub (.cons _ (.cons _ (.cons _ (.cons _ (.cons_cons _ (.cons_cons _ .slnil)))))), ?_⟩
 refine f_call rfl (map_c (some ⟨b11, 0, none⟩) 1 1 (some ⟨b34, 0, none⟩) 1 1 _) (x_call2 en_23 rfl rfl rfl) ?_
 rintro _ w ⟨rfl, hE⟩
 replace hF := hF.ext hE
 clear hE
 refine ⟨hF.sub (.cons _ (.cons _ (.cons _ (.cons _ (.cons_cons _ (.cons_cons _ .slnil)))))), ?_⟩
 refine f_call rfl (map_c (some ⟨b33, 0, none⟩) 1 1 (some ⟨b29, 0, none⟩) 1 1 _) (x_call2 en_23 rfl rfl rfl) ?_
 rintro _ w ⟨rfl, hE⟩
 replace hF := hF.ext hE
 clear hE
 refine ⟨hF.sub (.cons _ (.cons _ (.cons _ (.cons _ (.cons_cons _ (.cons_cons _ .slnil)))))), ?_⟩
 have hx_ : RX w0 [] w [treeD taT] [.int .i64 (6), .string (bs ([])), .slice (some ⟨b11, 0, none⟩) (1) (1), .slice (some ⟨b34, 0, none⟩) (1) (1)] := RX.tree ⟨by omega, by omega⟩ (by simp) (hF.rowX (ids := []) 3 rfl (RX.strs (ks := [[97]]) (by simp)) (by simp) rfl (by omega)) (hF.rowX (ids := []) 0 rfl (RX.num [49] (by simp)) (by simp) rfl (by simp [treesD]))
 have hy_ : RX w0 [] w [treeD tbT] [.int .i64 (6), .string (bs ([])), .slice (some ⟨b33, 0, none⟩) (1) (1), .slice (some ⟨b29, 0, none⟩) (1) (1)] := RX.tree ⟨by omega, by omega⟩ (by simp) (hF.rowX (ids := []) 1 rfl (RX.strs (ks := [[98]]) (by simp)) (by simp) rfl (by omega)) (hF.rowX (ids := []) 2 rfl (RX.num [49] (by simp)) (by simp) rfl (by simp [treesD]))
 refine f_call rfl ((by have h := between_c taT tbT _ _ _ [.int .i64 (6), .string (bs ([])), .slice (some ⟨b11, 0, none⟩) (1) (1), .slice (some ⟨b34, 0, none⟩) (1) (1)] [.int .i64 (6), .string (bs ([])), .slice (some ⟨b33, 0, none⟩) (1) (1), .slice (some ⟨b29, 0, none⟩) (1) (1)] hx_.rep hy_.rep (hG.ext hF.same) (by decide) (by decide) (by decide) (by decide); rw [bet_4.1, bet_4.2] at h; exact h)) (x_call2 en_11 rfl rfl rfl) ?_
 rintro _ w ⟨rfl, hE⟩
 replace hF := hF.ext hE
 clear hE
 refine ⟨hF.sub (.cons _ (.cons _ (.cons _ (.cons _ (.cons_cons _ (.cons_cons _ .slnil)))))), ?_⟩
 refine f_free rfl (v := .tuple #[.int .i64 (1), .int .i64 (0)]) (fun w hC => x_move rfl) (f_free rfl (v := .int .i64 (1)) (fun w hC => x_extract rfl rfl) (f_free rfl (v := .int .i64 (0)) (fun w hC => x_extract rfl rfl) (f_free rfl (v := .int .i64 (1)) (fun w hC => x_assign rfl) (f_free rfl (v := .int .i64 (0)) (fun w hC => x_assign rfl) (d_nil ?_)))))
 exact e_inv ⟨⟨rfl, rfl, rfl, rfl, rfl, rfl, rfl, rfl, rfl, trivial⟩, ((((((hF.front 5 rfl).front 5 rfl).erase 2).erase 2).erase 2).erase 2)⟩
 refine d_alt ?_ ?_
 refine f_new rfl (v := fun b => .slice (some ⟨b, 0, none⟩) 1 1) hF (x_buildSlice (cs := #[.int .i64 (3), .string (bs ([49])), .slice (none) (0) (0), .slice (none) (0) (0)]) Tryz.underlying23 Tryz.sizeOf25 Tryz.zeroValue25 (by decide) (by decide) (by kernel_rfl)) ?_
 clear hF; rintro b35 w hb35 hF -
 refine ⟨hF.sub (.cons _ (.cons_cons _ (.cons_cons _ .slnil))), ?_⟩
 refine d_alt ?_ ?_
 refine f_new rfl (v := fun b => .slice (some ⟨b, 0, none⟩) 1 1) hF (x_buildSlice (cs := #[.string (bs ([97]))]) Tryz.underlying22 Tryz.sizeOf9 Tryz.zeroValue9 (by decide) (by decide) (by kernel_rfl)) ?_
 clear hF; rintro b36 w hb36 hF -
 refine ⟨hF.sub (.cons _ (.cons _ (.cons_cons _ (.cons_cons _ .slnil)))), ?_⟩
 refine d_alt ?_ ?_
 refine f_call rfl (map_c (some ⟨b36, 0, none⟩) 1 1 (some ⟨b35, 0, none⟩) 1 1 _) (x_call2 en_23 rfl rfl rfl) ?_
 rintro _ w ⟨rfl, hE⟩
 replace hF := hF.ext hE
 clear hE
 refine ⟨hF.sub (.cons _ (.cons _ (.cons_cons _ (.cons_cons _ .slnil)))), ?_⟩
 refine d_alt ?_ ?_
 refine f_new rfl (v := fun b => .slice (some ⟨b, 0, none⟩) 1 1) hF (x_buildSlice (cs := #[.string (bs ([98]))]) Tryz.underlying22 Tryz.sizeOf9 Tryz.zeroValue9 (by decide) (by decide) (by kernel_rfl)) ?_
 clear hF; rintro b37 w hb37 hF -
 refine ⟨hF.sub (.cons _ (.cons _ (.cons _ (.cons_cons _ (.cons_cons _ .slnil))))), ?_⟩
 refine f_new rfl (v := fun b => .slice (some ⟨b, 0, none⟩) 1 1) hF (x_buildSlice (cs := #[.int .i64 (3), .string (bs ([49])), .slice (none) (0) (0), .slice (none) (0) (0)]) Tryz.underlying23 Tryz.sizeOf25 Tryz.zeroValue25 (by decide) (by decide) (by kernel_rfl)) ?_
 clear hF; rintro b38 w hb38 hF -
 refine ⟨hF.sub (.cons _ (.cons _ (.cons _ (.cons _ (.cons_cons _ (.cons_cons _ .slnil)))))), ?_⟩
 refine f_call rfl (map_c (some ⟨b37, 0, none⟩) 1 1 (some ⟨b38, 0, none⟩) 1 1 _) (x_call2 en_23 rfl rfl rfl) ?_
 rintro _ w ⟨rfl, hE⟩
 replace hF := hF.ext hE
 clear hE
 refine ⟨hF.sub (.cons _ (.cons _ (.cons _ (.cons _ (.cons_cons _ (.cons_cons _ .slnil)))))), ?_⟩
 have hx_ : RX w0 [] w [treeD taT] [.int .i64 (6), .string (bs ([])), .slice (some ⟨b36, 0, none⟩) (1) (1), .slice (some ⟨b35, 0, none⟩) (1) (1)] := RX.tree ⟨by omega, by omega⟩ (by simp) (hF.rowX (ids := []) 2 rfl (RX.strs (ks := [[97]]) (by simp)) (by simp) rfl (by omega)) (hF.rowX (ids := []) 3 rfl (RX.num [49] (by simp)) (by simp) rfl (by simp [treesD]))
 have hy_ : RX w0 [] w [treeD tbT] [.int .i64 (6), .string (bs ([])), .slice (some ⟨b37, 0, none⟩) (1) (1), .slice (some ⟨b38, 0, none⟩) (1) (1)] := RX.tree ⟨by omega, by omega⟩ (by simp) (hF.rowX (ids := []) 1 rfl (RX.strs (ks := [[98]]) (by simp)) (by simp) rfl (by omega)) (hF.rowX (ids := []) 0 rfl (RX.num [49] (by simp)) (by simp) rfl (by simp [treesD]))
 refine f_call rfl ((by have h := between_c taT tbT _ _ _ [.int .i64 (6), .string (bs ([])), .slice (some ⟨b36, 0, none⟩) (1) (1), .slice (some ⟨b35, 0, none⟩) (1) (1)] [.int .i64 (6), .string (bs ([])), .slice (some ⟨b37, 0, none⟩) (1) (1), .slice (some ⟨b38, 0, none⟩) (1) (1)] hx_.rep hy_.rep (hG.ext hF.same) (by decide) (by decide) (by decide) (by decide); rw [bet_4.1, bet_4.2] at h; exact h)) (x_call2 en_11 rfl rfl rfl) ?_
 rintro _ w ⟨rfl, hE⟩
 replace hF := hF.ext hE
 clear hE
 refine ⟨hF.sub (.cons _ (.cons _ (.cons _ (.cons _ (.cons_cons _ (.cons_cons _ .slnil)))))), ?_⟩
 refine f_free rfl (v := .tuple #[.int .i64 (1), .int .i64 (0)]) (fun w hC => x_move rfl) (f_free rfl (v := .int .i64 (1)) (fun w hC => x_extract rfl rfl) (f_free rfl (v := .int .i64 (0)) (fun w hC => x_extract rfl rfl) (f_free rfl (v := .int .i64 (1)) (fun w hC => x_assign rfl) (f_free rfl (v := .int .i64 (0)) (fun w hC => x_assign rfl) (d_nil ?_)))))
 exact e_inv ⟨⟨rfl, rfl, rfl, rfl, rfl, rfl, rfl, rfl, rfl, trivial⟩, ((((((hF.front 5 rfl).front 5 rfl).erase 2).erase 2).erase 2).erase 2)⟩
 refine f_new rfl (v := fun b => .slice (some ⟨b, 0, none⟩) 1 1) hF (x_buildSlice (cs := #[.int .i64 (3), .string (bs ([49])), .slice (none) (0) (0), .slice (none) (0) (0)]) Tryz.underlying23 Tryz.sizeOf25 Tryz.zeroValue25 (by decide) (by decide) (by kernel_rfl)) ?_
 clear hF; rintro b39 w hb39 hF -
 refine ⟨hF.sub (.cons _ (.cons _ (.cons _ (.cons_cons _ (.cons_cons _ .slnil))))), ?_⟩
 refine f_new rfl (v := fun b => .slice (some ⟨b, 0, none⟩) 1 1) hF (x_buildSlice (cs := #[.string (bs ([98]))]) Tryz.underlying22 Tryz.sizeOf9 Tryz.zeroValue9 (by decide) (by decide) (by kernel_rfl)) ?_
 clear hF; rintro b40 w hb40 hF -
 refine ⟨hF.sub (.cons _ (.cons _ (.cons _ (.cons _ (.cons_cons _ (.cons_cons _ .slnil)))))), ?_⟩
 refine f_call rfl (map_c (some ⟨b40, 0, none⟩) 1 1 (some ⟨b39, 0, none⟩) 1 1 _) (x_call2 en_23 rfl rfl rfl) ?_
 rintro _ w ⟨rfl, hE⟩
 replace hF := hF.ext hE
 clear hE
 refine ⟨hF.sub (.cons _ (.cons _ (.cons _ (.cons _ (.cons_cons _ (.cons_cons _ .slnil)))))), ?_⟩
 have hx_ : RX w0 [] w [treeD taT] [.int .i64 (6), .string (bs ([])), .slice (some ⟨b36, 0, none⟩) (1) (1), .slice (some ⟨b35, 0, none⟩) (1) (1)] := RX.tree ⟨by omega, by omega⟩ (by simp) (hF.rowX (ids := []) 2 rfl (RX.strs (ks := [[97]]) (by simp)) (by simp) rfl (by omega)) (hF.rowX (ids := []) 3 rfl (RX.num [49] (by simp)) (by simp) rfl (by simp [treesD]))
 have hy_ : RX w0 [] w [treeD tbT] [.int .i64 (6), .string (bs ([])), .slice (some ⟨b40, 0, none⟩) (1) (1), .slice (some ⟨b39, 0, none⟩) (1) (1)] := RX.tree ⟨by omega, by omega⟩ (by simp) (hF.rowX (ids := []) 0 rfl (RX.strs (ks := [[98]]) (by simp)) (by simp) rfl (by omega)) (hF.rowX (ids := []) 1 rfl (RX.num [49] (by simp)) (by simp) rfl (by simp [treesD]))
 refine f_call rfl ((by have h := between_c taT tbT _ _ _ [.int .i64 (6), .string (bs ([])), .slice (some ⟨b36, 0, none⟩) (1) (1), .slice (some ⟨b35, 0, none⟩) (1) (1)] [.int .i64 (6), .string (bs ([])), .slice (some ⟨b40, 0, none⟩) (1) (1), .slice (some ⟨b39, 0, none⟩) (1) (1)] hx_.rep hy_.rep (hG.ext hF.same) (by decide) (by decide) (by decide) (by decide); rw [bet_4.1, bet_4.2] at h; exact h)) (x_call2 en_11 rfl rfl rfl) ?_
 rintro _ w ⟨rfl, hE⟩
 replace hF := hF.ext hE
 clear hE
 refine ⟨hF.sub (.cons _ (.cons _ (.cons _ (.cons _ (.cons_cons _ (.cons_cons _ .slnil)))))), ?_⟩
 refine f_free rfl (v := .tuple #[.int .i64 (1), .int .i64 (0)]) (fun w hC => x_move rfl) (f_free rfl (v := .int .i64 (1)) (fun w hC => x_extract rfl rfl) (f_free rfl (v := .int .i64 (0)) (fun w hC => x_extract rfl rfl) (f_free rfl (v := .int .i64 (1)) (fun w hC => x_assign rfl) (f_free rfl (v := .int .i64 (0)) (fun w hC => x_assign rfl) (d_nil ?_)))))
 exact e_inv ⟨⟨rfl, rfl, rfl, rfl, rfl, rfl, rfl, rfl, rfl, trivial⟩, ((((((hF.front 5 rfl).front 5 rfl).erase 2).erase 2).erase 2).erase 2)⟩
 refine d_alt ?_ ?_
 refine f_new rfl (v := fun b => .slice (some ⟨b, 0, none⟩) 1 1) hF (x_buildSlice (cs := #[.string (bs ([98]))]) Tryz.underlying22 Tryz.sizeOf9 Tryz.zeroValue9 (by decide) (by decide) (by kernel_rfl)) ?_
 clear hF; rintro b41 w hb41 hF -
 refine ⟨hF.sub (.cons _ (.cons _ (.cons _ (.cons_cons _ (.cons_cons _ .slnil))))), ?_⟩
 refine d_alt ?_ ?_
 refine f_call rfl (map_c (some ⟨b36, 0, none⟩) 1 1 (some ⟨b35, 0, none⟩) 1 1 _) (x_call2 en_23 rfl rfl rfl) ?_
 rintro _ w ⟨rfl, hE⟩
 replace hF := hF.ext hE
 clear hE
 refine ⟨hF.sub (.cons _ (.cons _ (.cons _ (.cons_cons _ (.cons_cons _ .slnil))))), ?_⟩
 refine f_new rfl (v := fun b => .slice (some ⟨b, 0, none⟩) 1 1) hF (x_buildSlice (cs := #[.int .i64 (3), .string (bs ([49])), .slice (none) (0) (0), .slice (none) (0) (0)]) Tryz.underlying23 Tryz.sizeOf25 Tryz.zeroValue25 (by decide) (by decide) (by kernel_rfl)) ?_
 clear hF; rintro b42 w hb42 hF -
 refine ⟨hF.sub (.cons _ (.cons _ (.cons _ (.cons _ (.cons_cons _ (.cons_cons _ .slnil)))))), ?_⟩
 refine f_call rfl (map_c (some ⟨b41, 0, none⟩) 1 1 (some ⟨b42, 0, none⟩) 1 1 _) (x_call2 en_23 rfl rfl rfl) ?_
 rintro _ w ⟨rfl, hE⟩
 replace hF := hF.ext hE
 clear hE
 refine ⟨hF.sub (.cons _ (.cons _ (.cons _ (.cons _ (.cons_cons _ (.cons_cons _ .slnil)))))), ?_⟩
 have hx_ : RX w0 [] w [treeD taT] [.int .i64 (6), .string (bs ([])), .slice (some ⟨b36, 0, none⟩) (1) (1), .slice (some ⟨b35, 0, none⟩) (1) (1)] := RX.tree ⟨by omega, by omega⟩ (by simp) (hF.rowX (ids := []) 2 rfl (RX.strs (ks := [[97]]) (by simp)) (by simp) rfl (by omega)) (hF.rowX (ids := []) 3 rfl (RX.num [49] (by simp)) (by simp) rfl (by simp [treesD]))
 have hy_ : RX w0 [] w [treeD tbT] [.int .i64 (6), .string (bs ([])), .slice (some ⟨b41, 0, none⟩) (1) (1), .slice (some ⟨b42, 0, none⟩) (1) (1)] := RX.tree ⟨by omega, by omega⟩ (by simp) (hF.rowX (ids := []) 1 rfl (RX.strs (ks := [[98]]) (by simp)) (by simp) rfl (by omega)) (hF.rowX (ids := []) 0 rfl (RX.num [49] (by simp)) (by simp) rfl (by simp [treesD]))
 refine f_call rfl ((by have h := between_c taT tbT _ _ _ [.int .i64 (6), .string (bs ([])), .slice (some ⟨b36, 0, none⟩) (1) (1), .slice (some ⟨b35, 0, none⟩) (1) (1)] [.int .i64 (6), .string (bs ([])), .slice (some ⟨b41, 0, none⟩) (1) (1), .slice (some ⟨b42, 0, none⟩) (1) (1)] hx_.rep hy_.rep (hG.ext hF.same) (by decide) (by decide) (by decide) (by decide); rw [bet_4.1, bet_4.2] at h; exact h)) (x_call2 en_11 rfl rfl rfl) ?_
 rintro _ w ⟨rfl, hE⟩
 replace hF := hF.ext hE
 clear hE
 refine ⟨hF.sub (.cons _ (.cons _ (.cons _ (.cons _ (.cons_cons _ (.cons_cons _ .slnil)))))), ?_⟩
 refine f_free rfl (v := .tuple #[.int .i64 (1), .int .i64 (0)]) (fun w hC => x_move rfl) (f_free rfl (v := .int .i64 (1)) (fun w hC => x_extract rfl rfl) (f_free rfl (v := .int .i64 (0)) (fun w hC => x_extract rfl rfl) (f_free rfl (v := .int .i64 (1)) (fun w hC => x_assign rfl) (f_free rfl (v := .int .i64 (0)) (fun w hC => x_assign rfl) (d_nil ?_)))))
 exact e_inv ⟨⟨rfl, rfl, rfl, rfl, rfl, rfl, rfl, rfl, rfl, trivial⟩, ((((((hF.front 5 rfl).front 5 rfl).erase 2).erase 2).erase 2).erase 2)⟩
 refine f_new rfl (v := fun b => .slice (some ⟨b, 0, none⟩) 1 1) hF (x_buildSlice (cs := #[.int .i64 (3), .string (bs ([49])), .slice (none) (0) (0), .slice (none) (0) (0)]) Tryz.underlying23 Tryz.sizeOf25 Tryz.zeroValue25 (by decide) (by decide) (by kernel_rfl)) ?_
 clear hF; rintro b43 w hb43 hF -
 refine ⟨hF.sub (.cons _ (.cons _ (.cons _ (.cons _ (.cons_cons _ (.cons_cons _ .slnil)))))), ?_⟩
 refine f_call rfl (map_c (some ⟨b36, 0, none⟩) 1 1 (some ⟨b35, 0, none⟩) 1 1 _) (x_call2 en_23 rfl rfl rfl) ?_
 rintro _ w ⟨rfl, hE⟩
 replace hF := hF.ext hE
 clear hE
 refine ⟨hF.sub (.cons _ (.cons _ (.cons _ (.cons _ (.cons_cons _ (.cons_cons _ .slnil)))))), ?_⟩
 refine f_call rfl (map_c (some ⟨b41, 0, none⟩) 1 1 (some ⟨b43, 0, none⟩) 1 1 _) (x_call2 en_23 rfl rfl rfl) ?_
 rintro _ w ⟨rfl, hE⟩
 replace hF := hF.ext hE
 clear hE
 refine ⟨hF.sub (.cons _ (.cons _ (.cons _ (.cons _ (.cons_cons _ (.cons_cons _ .slnil)))))), ?_⟩
 have hx_ : RX w0 [] w [treeD taT] [.int .i64 (6), .string (bs ([])), .slice (some ⟨b36, 0, none⟩) (1) (1), .slice (some ⟨b35, 0, none⟩) (1) (1)] := RX.tree ⟨by omega, by omega⟩ (by simp) (hF.rowX (ids := []) 2 rfl (RX.strs (ks := [[97]]) (by simp)) (by simp) rfl (by omega)) (hF.rowX (ids := []) 3 rfl (RX.num [49] (by simp)) (by simp) rfl (by simp [treesD]))
 have hy_ : RX w0 [] w [treeD tbT] [.int .i64 (6), .string (bs ([])), .slice (some ⟨b41, 0, none⟩) (1) (1), .slice (some ⟨b43, 0, none⟩) (1) (1)] := RX.tree ⟨by omega, by omega⟩ (by simp) (hF.rowX (ids := []) 1 rfl (RX.strs (ks := [[98]]) (by simp)) (by simp) rfl (by omega)) (hF.rowX (ids := []) 0 rfl (RX.num [49] (by simp)) (by simp) rfl (by simp [treesD]))
 refine f_call rfl ((by have h := between_c taT tbT _ _ _ [.int .i64 (6), .string (bs ([])), .slice (some ⟨b36, 0, none⟩) (1) (1), .slice (some ⟨b35, 0, none⟩) (1) (1)] [.int .i64 (6), .string (bs ([])), .slice (some ⟨b41, 0, none⟩) (1) (1), .slice (some ⟨b43, 0, none⟩) (1) (1)] hx_.rep hy_.rep (hG.ext hF.same) (by decide) (by decide) (by decide) (by decide); rw [bet_4.1, bet_4.2] at h; exact h)) (x_call2 en_11 rfl rfl rfl) ?_
 rintro _ w ⟨rfl, hE⟩
 replace hF := hF.ext hE
 clear hE
 refine ⟨hF.sub (.cons _ (.cons _ (.cons _ (.cons _ (.cons_cons _ (.cons_cons _ .slnil)))))), ?_⟩
 refine f_free rfl (v := .tuple #[.int .i64 (1), .int .i64 (0)]) (fun w hC => x_move rfl) (f_free rfl (v := .int .i64 (1)) (fun w hC => x_extract rfl rfl) (f_free rfl (v := .int .i64 (0)) (fun w hC => x_extract rfl rfl) (f_free rfl (v := .int .i64 (1)) (fun w hC => x_assign rfl) (f_free rfl (v := .int .i64 (0)) (fun w hC => x_assign rfl) (d_nil ?_)))))
 exact e_inv ⟨⟨rfl, rfl, rfl, rfl, rfl, rfl, rfl, rfl, rfl, trivial⟩, ((((((hF.front 5 rfl).front 5 rfl).erase 2).erase 2).erase 2).erase 2)⟩
 refine f_new rfl (v := fun b => .slice (some ⟨b, 0, none⟩) 1 1) hF (x_buildSlice (cs := #[.int .i64 (3), .string (bs ([49])), .slice (none) (0) (0), .slice (none) (0) (0)]) Tryz.underlying23 Tryz.sizeOf25 Tryz.zeroValue25 (by decide) (by decide) (by kernel_rfl)) ?_
 clear hF; rintro b44 w hb44 hF -
 refine ⟨hF.sub (.cons _ (.cons _ (.cons _ (.cons_cons _ (.cons_cons _ .slnil))))), ?_⟩
 refine d_alt ?_ ?_
 refine f_call rfl (map_c (some ⟨b36, 0, none⟩) 1 1 (some ⟨b35, 0, none⟩) 1 1 _) (x_call2 en_23 rfl rfl rfl) ?_
 rintro _ w ⟨rfl, hE⟩
 replace hF := hF.ext hE
 clear hE
 refine ⟨hF.sub (.cons _ (.cons _ (.cons _ (.cons_cons _ (.cons_cons _ .slnil))))), ?_⟩
 refine f_new rfl (v := fun b => .slice (some ⟨b, 0, none⟩) 1 1) hF (x_buildSlice (cs := #[.string (bs ([98]))]) Tryz.underlying22 Tryz.sizeOf9 Tryz.zeroValue9 (by decide) (by decide) (by kernel_rfl)) ?_
 clear hF; rintro b45 w hb45 hF -
 refine ⟨hF.sub (.cons _ (.cons _ (.cons _ (.cons _ (.cons_cons _ (.cons_cons _ .slnil)))))), ?_⟩
 refine f_call rfl (map_c (some ⟨b45, 0, none⟩) 1 1 (some ⟨b44, 0, none⟩) 1 1 _) (x_call2 en_23 rfl rfl rfl) ?_
 rintro _ w ⟨rfl, hE⟩
 replace hF := hF.ext hE
 clear hE
 refine ⟨hF.sub (.cons _ (.cons _ (.cons _ (.cons _ (.cons_cons _ (.cons_cons _ .slnil)))))), ?_⟩
 have hx_ : RX w0 [] w [treeD taT] [.int .i64 (6), .string (bs ([])), .slice (some ⟨b36, 0, none⟩) (1) (1), .slice (some ⟨b35, 0, none⟩) (1) (1)] := RX.tree ⟨by omega, by omega⟩ (by simp) (hF.rowX (ids := []) 2 rfl (RX.strs (ks := [[97]]) (by simp)) (by simp) rfl (by omega)) (hF.rowX (ids := []) 3 rfl (RX.num [49] (by simp)) (by simp) rfl (by simp [treesD]))
 have hy_ : RX w0 [] w [treeD tbT] [.int .i64 (6), .string (bs ([])), .slice (some ⟨b45, 0, none⟩) (1) (1), .slice (some ⟨b44, 0, none⟩) (1) (1)] := RX.tree ⟨by omega, by omega⟩ (by simp) (hF.rowX (ids := []) 0 rfl (RX.strs (ks := [[98]]) (by simp)) (by simp) rfl (by omega)) (hF.rowX (ids := []) 1 rfl (RX.num [49] (by simp)) (by simp) rfl (by simp [treesD]))
 refine f_call rfl ((by have h := between_c taT tbT _ _ _ [.int .i64 (6), .string (bs ([])), .slice (some ⟨b36, 0, none⟩) (1) (1), .slice (some ⟨b35, 0, none⟩) (1) (1)] [.int .i64 (6), .string (bs ([])), .slice (some ⟨b45, 0, none⟩) (1) (1), .slice (some ⟨b44, 0, none⟩) (1) (1)] hx_.rep hy_.rep (hG.ext hF.same) (by decide) (by decide) (by decide) (by decide); rw [bet_4.1, bet_4.2] at h; exact h)) (x_call2 en_11 rfl rfl rfl) ?_
 rintro _ w ⟨rfl, hE⟩
 replace hF := hF.ext hE
 clear hE
 refine ⟨hF.sub (.cons _ (.cons _ (.cons _ (.cons _ (.cons_cons _ (.cons_cons _ .slnil)))))), ?_⟩
 refine f_free rfl (v := .tuple #[.int .i64 (1), .int .i64 (0)]) (fun w hC => x_move rfl) (f_free rfl (v := .int .i64 (1)) (fun w hC => x_extract rfl rfl) (f_free rfl (v := .int .i64 (0)) (fun w hC => x_extract rfl rfl) (f_free rfl (v := .int .i64 (1)) (fun w hC => x_assign rfl) (f_free rfl (v := .int .i64 (0)) (fun w hC => x_assign rfl) (d_nil ?_)))))
 exact e_inv ⟨⟨rfl, rfl, rfl, rfl, rfl, rfl, rfl, rfl, rfl, trivial⟩, ((((((hF.front 5 rfl).front 5 rfl).erase 2).erase 2).erase 2).erase 2)⟩
 refine f_new rfl (v := fun b => .slice (some ⟨b, 0, none⟩) 1 1) hF (x_buildSlice (cs := #[.string (bs ([98]))]) Tryz.underlying22 Tryz.sizeOf9 Tryz.zeroValue9 (by decide) (by decide) (by kernel_rfl)) ?_
 clear hF; rintro b46 w hb46 hF -
 refine ⟨hF.sub (.cons _ (.cons _ (.cons _ (.cons _ (.cons_cons _ (.cons_cons _ .slnil)))))), ?_⟩
 refine f_call rfl (map_c (some ⟨b36, 0, none⟩) 1 1 (some ⟨b35, 0, none⟩) 1 1 _) (x_call2 en_23 rfl rfl rfl) ?_
 rintro _ w ⟨rfl, hE⟩
 replace hF := hF.ext hE
 clear hE
 refine ⟨hF.sub (.cons _ (.cons _ (.cons _ (.cons _ (.cons_cons _ (.cons_cons _ .slnil)))))), ?_⟩
 refine f_call rfl (map_c (some ⟨b46, 0, none⟩) 1 1 (some ⟨b44, 0, none⟩) 1 1 _) (x_call2 en_23 rfl rfl rfl) ?_
 rintro _ w ⟨rfl, hE⟩
 replace hF := hF.ext hE
 clear hE
 refine ⟨hF.sub (.cons _ (.cons _ (.cons _ (.cons _ (.cons_cons _ (.cons_cons _ .slnil)))))), ?_⟩
 have hx_ : RX w0 [] w [treeD taT] [.int .i64 (6), .string (bs ([])), .slice (some ⟨b36, 0, none⟩) (1) (1), .slice (some ⟨b35, 0, none⟩) (1) (1)] := RX.tree ⟨by omega, by omega⟩ (by simp) (hF.rowX (ids := []) 2 rfl (RX.strs (ks := [[97]]) (by simp)) (by simp) rfl (by omega)) (hF.rowX (ids := []) 3 rfl (RX.num [49] (by simp)) (by simp) rfl (by simp [treesD]))
 have hy_ : RX w0 [] w [treeD tbT] [.int .i64 (6), .string (bs ([])), .slice (some ⟨b46, 0, none⟩) (1) (1), .slice (some ⟨b44, 0, none⟩) (1) (1)] := RX.tree ⟨by omega, by omega⟩ (by simp) (hF.rowX (ids := []) 0 rfl (RX.strs (ks := [[98]]) (by simp)) (by simp) rfl (by omega)) (hF.rowX (ids := []) 1 rfl (RX.num [49] (by simp)) (by simp) rfl (by simp [treesD]))
 refine f_call rfl ((by have h := between_c taT tbT _ _ _ [.int .i64 (6), .string (bs ([])), .slice (some ⟨b36, 0, none⟩) (1) (1), .slice (some ⟨b35, 0, none⟩) (1) (1)] [.int .i64 (6), .string (bs ([])), .slice (some ⟨b46, 0, none⟩) (1) (1), .slice (some ⟨b44, 0, none⟩) (1) (1)] hx_.rep hy_.rep (hG.ext hF.same) (by decide) (by decide) (by decide) (by decide); rw [bet_4.1, bet_4.2] at h; exact h)) (x_call2 en_11 rfl rfl rfl) ?_
 rintro _ w ⟨rfl, hE⟩
 replace hF := hF.ext hE
 clear hE
 refine ⟨hF.sub (.cons _ (.cons _ (.cons _ (.cons _ (.cons_cons _ (.cons_cons _ .slnil)))))), ?_⟩
 refine f_free rfl (v := .tuple #[.int .i64 (1), .int .i64 (0)]) (fun w hC => x_move rfl) (f_free rfl (v := .int .i64 (1)) (fun w hC => x_extract rfl rfl) (f_free rfl (v := .int .i64 (0)) (fun w hC => x_extract rfl rfl) (f_free rfl (v := .int .i64 (1)) (fun w hC => x_assign rfl) (f_free rfl (v := .int .i64 (0)) (fun w hC => x_assign rfl) (d_nil ?_)))))
 exact e_inv ⟨⟨rfl, rfl, rfl, rfl, rfl, rfl, rfl, rfl, rfl, trivial⟩, ((((((hF.front 5 rfl).front 5 rfl).erase 2).erase 2).erase 2).erase 2)⟩
 refine d_alt ?_ ?_
 refine f_new rfl (v := fun b => .slice (some ⟨b, 0, none⟩) 1 1) hF (x_buildSlice (cs := #[.string (bs ([98]))]) Tryz.underlying22 Tryz.sizeOf9 Tryz.zeroValue9 (by decide) (by decide) (by kernel_rfl)) ?_
 clear hF; rintro b47 w hb47 hF -
 refine ⟨hF.sub (.cons _ (.cons _ (.cons_cons _ (.cons_cons _ .slnil)))), ?_⟩
 refine d_alt ?_ ?_
 refine f_new rfl (v := fun b => .slice (some ⟨b, 0, none⟩) 1 1) hF (x_buildSlice (cs := #[.string (bs ([97]))]) Tryz.underlying22 Tryz.sizeOf9 Tryz.zeroValue9 (by decide) (by decide) (by kernel_rfl)) ?_
 clear hF; rintro b48 w hb48 hF -
 refine ⟨hF.sub (.cons _ (.cons _ (.cons _ (.cons_cons _ (.cons_cons _ .slnil))))), ?_⟩
 refine d_alt ?_ ?_
 refine f_call rfl (map_c (some ⟨b48, 0, none⟩) 1 1 (some ⟨b35, 0, none⟩) 1 1 _) (x_call2 en_23 rfl rfl rfl) ?_
 rintro _ w ⟨rfl, hE⟩
 replace hF := hF.ext hE
 clear hE
 refine ⟨hF.sub (.cons _ (.cons _ (.cons _ (.cons_cons _ (.cons_cons _ .slnil))))), ?_⟩
 refine f_new rfl (v := fun b => .slice (some ⟨b, 0, none⟩) 1 1) hF (x_buildSlice (cs := #[.int .i64 (3), .string (bs ([49])), .slice (none) (0) (0), .slice (none) (0) (0)]) Tryz.underlying23 Tryz.sizeOf25 Tryz.zeroValue25 (by decide) (by decide) (by kernel_rfl)) ?_
 clear hF; rintro b49 w hb49 hF -
 refine ⟨hF.sub (.cons _ (.cons _ (.cons _ (.cons _ (.cons_cons _ (.cons_cons _ .slnil)))))), ?_⟩
 refine f_call rfl (map_c (some ⟨b47, 0, none⟩) 1 1 (some ⟨b49, 0, none⟩) 1 1 _) (x_call2 en_23 rfl rfl rfl) ?_
 rintro _ w ⟨rfl, hE⟩
 replace hF := hF.ext hE
 clear hE
 refine ⟨hF.sub (.cons _ (.cons _ (.cons _ (.cons _ (.cons_cons _ (.cons_cons _ .slnil)))))), ?_⟩
 have hx_ : RX w0 [] w [treeD taT] [.int .i64 (6), .string (bs ([])), .slice (some ⟨b48, 0, none⟩) (1) (1), .slice (some ⟨b35, 0, none⟩) (1) (1)] := RX.tree ⟨by omega, by omega⟩ (by simp) (hF.rowX (ids := []) 1 rfl (RX.strs (ks := [[97]]) (by simp)) (by simp) rfl (by omega)) (hF.rowX (ids := []) 3 rfl (RX.num [49] (by simp)) (by simp) rfl (by simp [treesD]))
 have hy_ : RX w0 [] w [treeD tbT] [.int .i64 (6), .string (bs ([])), .slice (some ⟨b47, 0, none⟩) (1) (1), .slice (some ⟨b49, 0, none⟩) (1) (1)] := RX.tree ⟨by omega, by omega⟩ (by simp) (hF.rowX (ids := []) 2 rfl (RX.strs (ks := [[98]]) (by simp)) (by simp) rfl (by omega)) (hF.rowX (ids := []) 0 rfl (RX.num [49] (by simp)) (by simp) rfl (by simp [treesD]))
 refine f_call rfl ((by have h := between_c taT tbT _ _ _ [.int .i64 (6), .string (bs ([])), .slice (some ⟨b48, 0, none⟩) (1) (1), .slice (some ⟨b35, 0, none⟩) (1) (1)] [.int .i64 (6), .string (bs ([])), .slice (some ⟨b47, 0, none⟩) (1) (1), .slice (some ⟨b49, 0, none⟩) (1) (1)] hx_.rep hy_.rep (hG.ext hF.same) (by decide) (by decide) (by decide) (by decide); rw [bet_4.1, bet_4.2] at h; exact h)) (x_call2 en_11 rfl rfl rfl) ?_
 rintro _ w ⟨rfl, hE⟩
 replace hF := hF.ext hE
 clear hE
 refine ⟨hF.sub (.cons _ (.cons _ (.cons _ (.cons _ (.cons_cons _ (.cons_cons _ .slnil)))))), ?_⟩
 refine f_free rfl (v := .tuple #[.int .i64 (1), .int .i64 (0)]) (fun w hC => x_move rfl) (f_free rfl (v := .int .i64 (1)) (fun w hC => x_extract rfl rfl) (f_free rfl (v := .int .i64 (0)) (fun w hC => x_extract rfl rfl) (f_free rfl (v := .int .i64 (1)) (fun w hC => x_assign rfl) (f_free rfl (v := .int .i64 (0)) (fun w hC => x_assign rfl) (d_nil ?_)))))
 exact e_inv ⟨⟨rfl, rfl, rfl, rfl, rfl, rfl, rfl, rfl, rfl, trivial⟩, ((((((hF.front 5 rfl).front 5 rfl).erase 2).erase 2).erase 2).erase 2)⟩
 refine f_new rfl (v := fun b => .slice (some ⟨b, 0, none⟩) 1 1) hF (x_buildSlice (cs := #[.int .i64 (3), .string (bs ([49])), .slice (none) (0) (0), .slice (none) (0) (0)]) Tryz.underlying23 Tryz.sizeOf25 Tryz.zeroValue25 (by decide) (by decide) (by kernel_rfl)) ?_
 clear hF; rintro b50 w hb50 hF -
 refine ⟨hF.sub (.cons _ (.cons _ (.cons _ (.cons _ (.cons_cons _ (.cons_cons _ .slnil)))))), ?_⟩
 refine f_call rfl (map_c (some ⟨b48, 0, none⟩) 1 1 (some ⟨b35, 0, none⟩) 1 1 _) (x_call2 en_23 rfl rfl rfl) ?_
 rintro _ w ⟨rfl, hE⟩
 replace hF := hF.ext hE
 clear hE
 refine ⟨hF.sub (.cons _ (.cons _ (.cons _ (.cons _ (.cons_cons _ (.cons_cons _ .slnil)))))), ?_⟩
 refine f_call rfl (map_c (some ⟨b47, 0, none⟩) 1 1 (some ⟨b50, 0, none⟩) 1 1 _) (x_call2 en_23 rfl rfl rfl) ?_
 rintro _ w ⟨rfl, hE⟩
 replace hF := hF.ext hE
 clear hE
 refine ⟨hF.sub (.cons _ (.cons _ (.cons _ (.cons _ (.cons_cons _ (.cons_cons _ .slnil)))))), ?_⟩
 have hx_ : RX w0 [] w [treeD taT] [.int .i64 (6), .string (bs ([])), .slice (some ⟨b48, 0, none⟩) (1) (1), .slice (some ⟨b35, 0, none⟩) (1) (1)] := RX.tree ⟨by omega, by omega⟩ (by simp) (hF.rowX (ids := []) 1 rfl (RX.strs (ks := [[97]]) (by simp)) (by simp) rfl (by omega)) (hF.rowX (ids := []) 3 rfl (RX.num [49] (by simp)) (by simp) rfl (by simp [treesD]))
 have hy_ : RX w0 [] w [treeD tbT] [.int .i64 (6), .string (bs ([])), .slice (some ⟨b47, 0, none⟩) (1) (1), .slice (some ⟨b50, 0, none⟩) (1) (1)] := RX.tree ⟨by omega, by omega⟩ (by simp) (hF.rowX (ids := []) 2 rfl (RX.strs (ks := [[98]]) (by simp)) (by simp) rfl (by omega)) (hF.rowX (ids := []) 0 rfl (RX.num [49] (by simp)) (by simp) rfl (by simp [treesD]))
 refine f_call rfl ((by have h := between_c taT tbT _ _ _ [.int .i64 (6), .string (bs ([])), .slice (some ⟨b48, 0, none⟩) (1) (1), .slice (some ⟨b35, 0, none⟩) (1) (1)] [.int .i64 (6), .string (bs ([])), .slice (some ⟨b47, 0, none⟩) (1) (1), .slice (some ⟨b50, 0, none⟩) (1) (1)] hx_.rep hy_.rep (hG.ext hF.same) (by decide) (by decide) (by decide) (by decide); rw [bet_4.1, bet_4.2] at h; exact h)) (x_call2 en_11 rfl rfl rfl) ?_
 rintro _ w ⟨rfl, hE⟩
 replace hF := hF.ext hE
 clear hE
 refine ⟨hF.sub (.cons _ (.cons _ (.cons _ (.cons _ (.cons_cons _ (.cons_cons _ .slnil)))))), ?_⟩
 refine f_free rfl (v := .tuple #[.int .i64 (1), .int .i64 (0)]) (fun w hC => x_move rfl) (f_free rfl (v := .int .i64 (1)) (fun w hC => x_extract rfl rfl) (f_free rfl (v := .int .i64 (0)) (fun w hC => x_extract rfl rfl) (f_free rfl (v := .int .i64 (1)) (fun w hC => x_assign rfl) (f_free rfl (v := .int .i64 (0)) (fun w hC => x_assign rfl) (d_nil ?_)))))
 exact e_inv ⟨⟨rfl, rfl, rfl, rfl, rfl, rfl, rfl, rfl, rfl, trivial⟩, ((((((hF.front 5 rfl).front 5 rfl).erase 2).erase 2).erase 2).erase 2)⟩
 refine f_new rfl (v := fun b => .slice (some ⟨b, 0, none⟩) 1 1) hF (x_buildSlice (cs := #[.int .i64 (3), .string (bs ([49])), .slice (none) (0) (0), .slice (none) (0) (0)]) Tryz.underlying23 Tryz.sizeOf25 Tryz.zeroValue25 (by decide) (by decide) (by kernel_rfl)) ?_
 clear hF; rintro b51 w hb51 hF -
 refine ⟨hF.sub (.cons _ (.cons _ (.cons _ (.cons_cons _ (.cons_cons _ .slnil))))), ?_⟩
 refine f_new rfl (v := fun b => .slice (some ⟨b, 0, none⟩) 1 1) hF (x_buildSlice (cs := #[.string (bs ([97]))]) Tryz.underlying22 Tryz.sizeOf9 Tryz.zeroValue9 (by decide) (by decide) (by kernel_rfl)) ?_
 clear hF; rintro b52 w hb52 hF -
 refine ⟨hF.sub (.cons _ (.cons _ (.cons _ (.cons _ (.cons_cons _ (.cons_cons _ .slnil)))))), ?_⟩
 refine f_call rfl (map_c (some ⟨b52, 0, none⟩) 1 1 (some ⟨b35, 0, none⟩) 1 1 _) (x_call2 en_23 rfl rfl rfl) ?_
 rintro _ w ⟨rfl, hE⟩
 replace hF := hF.ext hE
 clear hE
 refine ⟨hF.sub (.cons _ (.cons _ (.cons _ (.cons _ (.cons_cons _ (.cons_cons _ .slnil)))))), ?_⟩
 refine f_call rfl (map_c (some ⟨b47, 0, none⟩) 1 1 (some ⟨b51, 0, none⟩) 1 1 _) (x_call2 en_23 rfl rfl rfl) ?_
 rintro _ w ⟨rfl, hE⟩
 replace hF := hF.ext hE
 clear hE
 refine ⟨hF.sub (.cons _ (.cons _ (.cons _ (.cons _ (.cons_cons _ (.cons_cons _ .slnil)))))), ?_⟩
 have hx_ : RX w0 [] w [treeD taT] [.int .i64 (6), .string (bs ([])), .slice (some ⟨b52, 0, none⟩) (1) (1), .slice (some ⟨b35, 0, none⟩) (1) (1)] := RX.tree ⟨by omega, by omega⟩ (by simp) (hF.rowX (ids := []) 0 rfl (RX.strs (ks := [[97]]) (by simp)) (by simp) rfl (by omega)) (hF.rowX (ids := []) 3 rfl (RX.num [49] (by simp)) (by simp) rfl (by simp [treesD]))
 have hy_ : RX w0 [] w [treeD tbT] [.int .i64 (6), .string (bs ([])), .slice (some ⟨b47, 0, none⟩) (1) (1), .slice (some ⟨b51, 0, none⟩) (1) (1)] := RX.tree ⟨by omega, by omega⟩ (by simp) (hF.rowX (ids := []) 2 rfl (RX.strs (ks := [[98]]) (by simp)) (by simp) rfl (by omega)) (hF.rowX (ids := []) 1 rfl (RX.num [49] (by simp)) (by simp) rfl (by simp [treesD]))
 refine f_call rfl ((by have h := between_c taT tbT _ _ _ [.int .i64 (6), .string (bs ([])), .slice (some ⟨b52, 0, none⟩) (1) (1), .slice (some ⟨b35, 0, none⟩) (1) (1)] [.int .i64 (6), .string (bs ([])), .slice (some ⟨b47, 0, none⟩) (1) (1), .slice (some ⟨b51, 0, none⟩) (1) (1)] hx_.rep hy_.rep (hG.ext hF.same) (by decide) (by decide) (by decide) (by decide); rw [bet_4.1, bet_4.2] at h; exact h)) (x_call2 en_11 rfl rfl rfl) ?_
 rintro _ w ⟨rfl, hE⟩
 replace hF := hF.ext hE
 clear hE
 refine ⟨hF.sub (.cons _ (.cons _ (.cons _ (.cons _ (.cons_cons _ (.cons_cons _ .slnil)))))), ?_⟩
 refine f_free rfl (v := .tuple #[.int .i64 (1), .int .i64 (0)]) (fun w hC => x_move rfl) (f_free rfl (v := .int .i64 (1)) (fun w hC => x_extract rfl rfl) (f_free rfl (v := .int .i64 (0)) (fun w hC => x_extract rfl rfl) (f_free rfl (v := .int .i64 (1)) (fun w hC => x_assign rfl) (f_free rfl (v := .int .i64 (0)) (fun w hC => x_assign rfl) (d_nil ?_)))))
 exact e_inv ⟨⟨rfl, rfl, rfl, rfl, rfl, rfl, rfl, rfl, rfl, trivial⟩, ((((((hF.front 5 rfl).front 5 rfl).erase 2).erase 2).erase 2).erase 2)⟩
 refine f_new rfl (v := fun b => .slice (some ⟨b, 0, none⟩) 1 1) hF (x_buildSlice (cs := #[.int .i64 (3), .string (bs ([49])), .slice (none) (0) (0), .slice (none) (0) (0)]) Tryz.underlying23 Tryz.sizeOf25 Tryz.zeroValue25 (by decide) (by decide) (by kernel_rfl)) ?_
 clear hF; rintro b53 w hb53 hF -
 refine ⟨hF.sub (.cons _ (.cons _ (.cons_cons _ (.cons_cons _ .slnil)))), ?_⟩
 refine d_alt ?_ ?_
 refine f_new rfl (v := fun b => .slice (some ⟨b, 0, none⟩) 1 1) hF (x_buildSlice (cs := #[.string (bs ([97]))]) Tryz.underlying22 Tryz.sizeOf9 Tryz.zeroValue9 (by decide) (by decide) (by kernel_rfl)) ?_
 clear hF; rintro b54 w hb54 hF -
 refine ⟨hF.sub (.cons _ (.cons _ (.cons _ (.cons_cons _ (.cons_cons _ .slnil))))), ?_⟩
 refine d_alt ?_ ?_
 refine f_call rfl (map_c (some ⟨b54, 0, none⟩) 1 1 (some ⟨b35, 0, none⟩) 1 1 _) (x_call2 en_23 rfl rfl rfl) ?_
 rintro _ w ⟨rfl, hE⟩
 replace hF := hF.ext hE
 clear hE
 refine ⟨hF.sub (.cons _ (.cons _ (.cons _ (.cons_cons _ (.cons_cons _ .slnil))))), ?_⟩
 refine f_new rfl (v := fun b => .slice (some ⟨b, 0, none⟩) 1 1) hF (x_buildSlice (cs := #[.string (bs ([98]))]) Tryz.underlying22 Tryz.sizeOf9 Tryz.zeroValue9 (by decide) (by decide) (by kernel_rfl)) ?_
 clear hF; rintro b55 w hb55 hF -
 refine ⟨hF.sub (.cons _ (.cons _ (.cons _ (.cons _ (.cons_cons _ (.cons_cons _ .slnil)))))), ?_⟩
 refine f_call rfl (map_c (some ⟨b55, 0, none⟩) 1 1 (some ⟨b53, 0, none⟩) 1 1 _) (x_call2 en_23 rfl rfl rfl) ?_
 rintro _ w ⟨rfl, hE⟩
 replace hF := hF.ext hE
 clear hE
 refine ⟨hF.sub (.cons _ (.cons _ (.cons _ (.cons _ (.cons_cons _ (.cons_cons _ .slnil)))))), ?_⟩
 have hx_ : RX w0 [] w [treeD taT] [.int .i64 (6), .string (bs ([])), .slice (some ⟨b54, 0, none⟩) (1) (1), .slice (some ⟨b35, 0, none⟩) (1) (1)] := RX.tree ⟨by omega, by omega⟩ (by simp) (hF.rowX (ids := []) 1 rfl (RX.strs (ks := [[97]]) (by simp)) (by simp) rfl (by omega)) (hF.rowX (ids := []) 3 rfl (RX.num [49] (by simp)) (by simp) rfl (by simp [treesD]))
 have hy_ : RX w0 [] w [treeD tbT] [.int .i64 (6), .string (bs ([])), .slice (some ⟨b55, 0, none⟩) (1) (1), .slice (some ⟨b53, 0, none⟩) (1) (1)] := RX.tree ⟨by omega, by omega⟩ (by simp) (hF.rowX (ids := []) 0 rfl (RX.strs (ks := [[98]]) (by simp)) (by simp) rfl (by omega)) (hF.rowX (ids := []) 2 rfl (RX.num [49] (by simp)) (by simp) rfl (by simp [treesD]))
 refine f_call rfl ((by have h := between_c taT tbT _ _ _ [.int .i64 (6), .string (bs ([])), .slice (some ⟨b54, 0, none⟩) (1) (1), .slice (some ⟨b35, 0, none⟩) (1) (1)] [.int .i64 (6), .string (bs ([])), .slice (some ⟨b55, 0, none⟩) (1) (1), .slice (some ⟨b53, 0, none⟩) (1) (1)] hx_.rep hy_.rep (hG.ext hF.same) (by decide) (by decide) (by decide) (by decide); rw [bet_4.1, bet_4.2] at h; exact h)) (x_call2 en_11 rfl rfl rfl) ?_
 rintro _ w ⟨rfl, hE⟩
 replace hF := hF.ext hE
 clear hE
 refine ⟨hF.sub (.cons _ (.cons _ (.cons _ (.cons _ (.cons_cons _ (.cons_cons _ .slnil)))))), ?_⟩
 refine f_free rfl (v := .tuple #[.int .i64 (1), .int .i64 (0)]) (fun w hC => x_move rfl) (f_free rfl (v := .int .i64 (1)) (fun w hC => x_extract rfl rfl) (f_free rfl (v := .int .i64 (0)) (fun w hC => x_extract rfl rfl) (f_free rfl (v := .int .i64 (1)) (fun w hC => x_assign rfl) (f_free rfl (v := .int .i64 (0)) (fun w hC => x_assign rfl) (d_nil ?_)))))
 exact e_inv ⟨⟨rfl, rfl, rfl, rfl, rfl, rfl, rfl, rfl, rfl, trivial⟩, ((((((hF.front 5 rfl).front 5 rfl).erase 2).erase 2).erase 2).erase 2)⟩
 refine f_new rfl (v := fun b => .slice (some ⟨b, 0, none⟩) 1 1) hF (x_buildSlice (cs := #[.string (bs ([98]))]) Tryz.underlying22 Tryz.sizeOf9 Tryz.zeroValue9 (by decide) (by decide) (by kernel_rfl)) ?_
 clear hF; rintro b56 w hb56 hF -
 refine ⟨hF.sub (.cons _ (.cons _ (.cons _ (.cons _ (.cons_cons _ (.cons_cons _ .slnil)))))), ?_⟩
 refine f_call rfl (map_c (some ⟨b54, 0, none⟩) 1 1 (some ⟨b35, 0, none⟩) 1 1 _) (x_call2 en_23 rfl rfl rfl) ?_
 rintro _ w ⟨rfl, hE⟩
 replace hF := hF.ext hE
 clear hE
 refine ⟨hF.sub (.cons _ (.cons _ (.cons _ (.cons _ (.cons_cons _ (.cons_cons _ .slnil)))))), ?_⟩
 refine f_call rfl (map_c (some ⟨b56, 0, none⟩) 1 1 (some ⟨b53, 0, none⟩) 1 1 _) (x_call2 en_23 rfl rfl rfl) ?_
 rintro _ w ⟨rfl, hE⟩
 replace hF := hF.ext hE
 clear hE
 refine ⟨hF.sub (.cons _ (.cons _ (.cons _ (.cons _ (.cons_cons _ (.cons_cons _ .slnil)))))), ?_⟩
 have hx_ : RX w0 [] w [treeD taT] [.int .i64 (6), .string (bs ([])), .slice (some ⟨b54, 0, none⟩) (1) (1), .slice (some ⟨b35, 0, none⟩) (1) (1)] := RX.tree ⟨by omega, by omega⟩ (by simp) (hF.rowX (ids := []) 1 rfl (RX.strs (ks := [[97]]) (by simp)) (by simp) rfl (by omega)) (hF.rowX (ids := []) 3 rfl (RX.num [49] (by simp)) (by simp) rfl (by simp [treesD]))
 have hy_ : RX w0 [] w [treeD tbT] [.int .i64 (6), .string (bs ([])), .slice (some ⟨b56, 0, none⟩) (1) (1), .slice (some ⟨b53, 0, none⟩) (1) (1)] := RX.tree ⟨by omega, by omega⟩ (by simp) (hF.rowX (ids := []) 0 rfl (RX.strs (ks := [[98]]) (by simp)) (by simp) rfl (by omega)) (hF.rowX (ids := []) 2 rfl (RX.num [49] (by simp)) (by simp) rfl (by simp [treesD]))
 refine f_call rfl ((by have h := between_c taT tbT _ _ _ [.int .i64 (6), .string (bs ([])), .slice (some ⟨b54, 0, none⟩) (1) (1), .slice (some ⟨b35, 0, none⟩) (1) (1)] [.int .i64 (6), .string (bs ([])), .slice (some ⟨b56, 0, none⟩) (1) (1), .slice (some ⟨b53, 0, none⟩) (1) (1)] hx_.rep hy_.rep (hG.ext hF.same) (by decide) (by decide) (by decide) (by decide); rw [bet_4.1, bet_4.2] at h; exact h)) (x_call2 en_11 rfl rfl rfl) ?_
 rintro _ w ⟨rfl, hE⟩
 replace hF := hF.ext hE
 clear hE
 refine ⟨hF.sub (.cons _ (.cons _ (.cons _ (.cons _ (.cons_cons _ (.cons_cons _ .slnil)))))), ?_⟩
 refine f_free rfl (v := .tuple #[.int .i64 (1), .int .i64 (0)]) (fun w hC => x_move rfl) (f_free rfl (v := .int .i64 (1)) (fun w hC => x_extract rfl rfl) (f_free rfl (v := .int .i64 (0)) (fun w hC => x_extract rfl rfl) (f_free rfl (v := .int .i64 (1)) (fun w hC => x_assign rfl) (f_free rfl (v := .int .i64 (0)) (fun w hC => x_assign rfl) (d_nil ?_)))))
 exact e_inv ⟨⟨rfl, rfl, rfl, rfl, rfl, rfl, rfl, rfl, rfl, trivial⟩, ((((((hF.front 5 rfl).front 5 rfl).erase 2).erase 2).erase 2).erase 2)⟩
 refine f_new rfl (v := fun b => .slice (some ⟨b, 0, none⟩) 1 1) hF (x_buildSlice (cs := #[.string (bs ([98]))]) Tryz.underlying22 Tryz.sizeOf9 Tryz.zeroValue9 (by decide) (by decide) (by kernel_rfl)) ?_
 clear hF; rintro b57 w hb57 hF -
 refine ⟨hF.sub (.cons _ (.cons _ (.cons _ (.cons_cons _ (.cons_cons _ .slnil))))), ?_⟩
 refine f_new rfl (v := fun b => .slice (some ⟨b, 0, none⟩) 1 1) hF (x_buildSlice (cs := #[.string (bs ([97]))]) Tryz.underlying22 Tryz.sizeOf9 Tryz.zeroValue9 (by decide) (by decide) (by kernel_rfl)) ?_
 clear hF; rintro b58 w hb58 hF -
 refine ⟨hF.sub (.cons _ (.cons _ (.cons _ (.cons _ (.cons_cons _ (.cons_cons _ .slnil)))))), ?_⟩
 refine f_call rfl (map_c (some ⟨b58, 0, none⟩) 1 1 (some ⟨b35, 0, none⟩) 1 1 _) (x_call2 en_23 rfl rfl rfl) ?_
 rintro _ w ⟨rfl, hE⟩
 replace hF := hF.ext hE
 clear hE
 refine ⟨hF.sub (.cons _ (.cons _ (.cons _ (.cons _ (.cons_cons _ (.cons_cons _ .slnil)))))), ?_⟩
 refine f_call rfl (map_c (some ⟨b57, 0, none⟩) 1 1 (some ⟨b53, 0, none⟩) 1 1 _) (x_call2 en_23 rfl rfl rfl) ?_
 rintro _ w ⟨rfl, hE⟩
 replace hF := hF.ext hE
 clear hE
 refine ⟨hF.sub (.cons _ (.cons _ (.cons _ (.cons _ (.cons_cons _ (.cons_cons _ .slnil)))))), ?_⟩
 have hx_ : RX w0 [] w [treeD taT] [.int .i64 (6), .string (bs ([])), .slice (some ⟨b58, 0, none⟩) (1) (1), .slice (some ⟨b35, 0, none⟩) (1) (1)] := RX.tree ⟨by omega, by omega⟩ (by simp) (hF.rowX (ids := []) 0 rfl (RX.strs (ks := [[97]]) (by simp)) (by simp) rfl (by omega)) (hF.rowX (ids := []) 3 rfl (RX.num [49] (by simp)) (by simp) rfl (by simp [treesD]))
 have hy_ : RX w0 [] w [treeD tbT] [.int .i64 (6), .string (bs ([])), .slice (some ⟨b57, 0, none⟩) (1) (1), .slice (some ⟨b53, 0, none⟩) (1) (1)] := RX.tree ⟨by omega, by omega⟩ (by simp) (hF.rowX (ids := []) 1 rfl (RX.strs (ks := [[98]]) (by simp)) (by simp) rfl (by omega)) (hF.rowX (ids := []) 2 rfl (RX.num [49] (by simp)) (by simp) rfl (by simp [treesD]))
 refine f_call rfl ((by have h := between_c taT tbT _ _ _ [.int .i64 (6), .string (bs ([])), .slice (some ⟨b58, 0, none⟩) (1) (1), .slice (some ⟨b35, 0, none⟩) (1) (1)] [.int .i64 (6), .string (bs ([])), .slice (some ⟨b57, 0, none⟩) (1) (1), .slice (some ⟨b53, 0, none⟩) (1) (1)] hx_.rep hy_.rep (hG.ext hF.same) (by decide) (by decide) (by decide) (by decide); rw [bet_4.1, bet_4.2] at h; exact h)) (x_call2 en_11 rfl rfl rfl) ?_
 rintro _ w ⟨rfl, hE⟩
 replace hF := hF.ext hE
 clear hE
 refine ⟨hF.sub (.cons _ (.cons _ (.cons _ (.cons _ (.cons_cons _ (.cons_cons _ .slnil)))))), ?_⟩
 refine f_free rfl (v := .tuple #[.int .i64 (1), .int .i64 (0)]) (fun w hC => x_move rfl) (f_free rfl (v := .int .i64 (1)) (fun w hC => x_extract rfl rfl) (f_free rfl (v := .int .i64 (0)) (fun w hC => x_extract rfl rfl) (f_free rfl (v := .int .i64 (1)) (fun w hC => x_assign rfl) (f_free rfl (v := .int .i64 (0)) (fun w hC => x_assign rfl) (d_nil ?_)))))
 exact e_inv ⟨⟨rfl, rfl, rfl, rfl, rfl, rfl, rfl, rfl, rfl, trivial⟩, ((((((hF.front 5 rfl).front 5 rfl).erase 2).erase 2).erase 2).erase 2)⟩
 refine d_alt ?_ ?_
 refine f_new rfl (v := fun b => .slice (some ⟨b, 0, none⟩) 1 1) hF (x_buildSlice (cs := #[.string (bs ([98]))]) Tryz.underlying22 Tryz.sizeOf9 Tryz.zeroValue9 (by decide) (by decide) (by kernel_rfl)) ?_
 clear hF; rintro b59 w hb59 hF -
 refine ⟨hF.sub (.cons _ (.cons_cons _ (.cons_cons _ .slnil))), ?_⟩
 refine d_alt ?_ ?_
 refine f_new rfl (v := fun b => .slice (some ⟨b, 0, none⟩) 1 1) hF (x_buildSlice (cs := #[.string (bs ([97]))]) Tryz.underlying22 Tryz.sizeOf9 Tryz.zeroValue9 (by decide) (by decide) (by kernel_rfl)) ?_
 clear hF; rintro b60 w hb60 hF -
 refine ⟨hF.sub (.cons _ (.cons _ (.cons_cons _ (.cons_cons _ .slnil)))), ?_⟩
 refine d_alt ?_ ?_
 refine f_new rfl (v := fun b => .slice (some ⟨b, 0, none⟩) 1 1) hF (x_buildSlice (cs := #[.int .i64 (3), .string (bs ([49])), .slice (none) (0) (0), .slice (none) (0) (0)]) Tryz.underlying23 Tryz.sizeOf25 Tryz.zeroValue25 (by decide) (by decide) (by kernel_rfl)) ?_
 clear hF; rintro b61 w hb61 hF -
 refine ⟨hF.sub (.cons _ (.cons _ (.cons _ (.cons_cons _ (.cons_cons _ .slnil))))), ?_⟩
 refine d_alt ?_ ?_
 refine f_call rfl (map_c (some ⟨b60, 0, none⟩) 1 1 (some ⟨b61, 0, none⟩) 1 1 _) (x_call2 en_23 rfl rfl rfl) ?_
 rintro _ w ⟨rfl, hE⟩
 replace hF := hF.ext hE
 clear hE
 refine ⟨hF.sub (.cons _ (.cons _ (.cons _ (.cons_cons _ (.cons_cons _ .slnil))))), ?_⟩
 refine f_new rfl (v := fun b => .slice (some ⟨b, 0, none⟩) 1 1) hF (x_buildSlice (cs := #[.int .i64 (3), .string (bs ([49])), .slice (none) (0) (0), .slice (none) (0) (0)]) Tryz.underlying23 Tryz.sizeOf25 Tryz.zeroValue25 (by decide) (by decide) (by kernel_rfl)) ?_
 clear hF; rintro b62 w hb62 hF -
 refine ⟨hF.sub (.cons _ (.cons _ (.cons _ (.cons _ (.cons_cons _ (.cons_cons _ .slnil)))))), ?_⟩
 refine f_call rfl (map_c (some ⟨b59, 0, none⟩) 1 1 (some ⟨b62, 0, none⟩) 1 1 _) (x_call2 en_23 rfl rfl rfl) ?_
 rintro _ w ⟨rfl, hE⟩
 replace hF := hF.ext hE
 clear hE
 refine ⟨hF.sub (.cons _ (.cons _ (.cons _ (.cons _ (.cons_cons _ (.cons_cons _ .slnil)))))), ?_⟩
 have hx_ : RX w0 [] w [treeD taT] [.int .i64 (6), .string (bs ([])), .slice (some ⟨b60, 0, none⟩) (1) (1), .slice (some ⟨b61, 0, none⟩) (1) (1)] := RX.tree ⟨by omega, by omega⟩ (by simp) (hF.rowX (ids := []) 2 rfl (RX.strs (ks := [[97]]) (by simp)) (by simp) rfl (by omega)) (hF.rowX (ids := []) 1 rfl (RX.num [49] (by simp)) (by simp) rfl (by simp [treesD]))
 have hy_ : RX w0 [] w [treeD tbT] [.int .i64 (6), .string (bs ([])), .slice (some ⟨b59, 0, none⟩) (1) (1), .slice (some ⟨b62, 0, none⟩) (1) (1)] := RX.tree ⟨by omega, by omega⟩ (by simp) (hF.rowX (ids := []) 3 rfl (RX.strs (ks := [[98]]) (by simp)) (by simp) rfl (by omega)) (hF.rowX (ids := []) 0 rfl (RX.num [49] (by simp)) (by simp) rfl (by simp [treesD]))
 refine f_call rfl ((by have h := between_c taT tbT _ _ _ [.int .i64 (6), .string (bs ([])), .slice (some ⟨b60, 0, none⟩) (1) (1), .slice (some ⟨b61, 0, none⟩) (1) (1)] [.int .i64 (6), .string (bs ([])), .slice (some ⟨b59, 0, none⟩) (1) (1), .slice (some ⟨b62, 0, none⟩) (1) (1)] hx_.rep hy_.rep (hG.ext hF.same) (by decide) (by decide) (by decide) (by decide); rw [bet_4.1, bet_4.2] at h; exact h)) (x_call2 en_11 rfl rfl rfl) ?_
 rintro _ w ⟨rfl, hE⟩
 replace hF := hF.ext hE
 clear hE
 refine ⟨hF.sub (.cons _ (.cons _ (.cons _ (.cons _ (.cons_cons _ (.cons_cons _ .slnil)))))), ?_⟩
 refine f_free rfl (v := .tuple #[.int .i64 (1), .int .i64 (0)]) (fun w hC => x_move rfl) (f_free rfl (v := .int .i64 (1)) (fun w hC => x_extract rfl rfl) (f_free rfl (v := .int .i64 (0)) (fun w hC => x_extract rfl rfl) (f_free rfl (v := .int .i64 (1)) (fun w hC => x_assign rfl) (f_free rfl (v := .int .i64 (0)) (fun w hC => x_assign rfl) (d_nil ?_)))))
 exact e_inv ⟨⟨rfl, rfl, rfl, rfl, rfl, rfl, rfl, rfl, rfl, trivial⟩, ((((((hF.front 5 rfl).front 5 rfl).erase 2).erase 2).erase 2).erase 2)⟩
 refine f_new rfl (v := fun b => .slice (some ⟨b, 0, none⟩) 1 1) hF (x_buildSlice (cs := #[.int .i64 (3), .string (bs ([49])), .slice (none) (0) (0), .slice (none) (0) (0)]) Tryz.underlying23 Tryz.sizeOf25 Tryz.zeroValue25 (by decide) (by decide) (by kernel_rfl)) ?_
 clear hF; rintro b63 w hb63 hF -
 refine ⟨hF.sub (.cons _ (.cons _ (.cons _ (.cons _ (.cons_cons _ (.cons_cons _ .slnil)))))), ?_⟩
 refine f_call rfl (map_c (some ⟨b60, 0, none⟩) 1 1 (some ⟨b61, 0, none⟩) 1 1 _) (x_call2 en_23 rfl rfl rfl) ?_
 rintro _ w ⟨rfl, hE⟩
 replace hF := hF.ext hE
 clear hE
 refine ⟨hF.sub (.cons _ (.cons _ (.cons _ (.cons _ (.cons_cons _ (.cons_cons _ .slnil)))))), ?_⟩
 refine f_call rfl (map_c (some ⟨b59, 0, none⟩) 1 1 (some ⟨b63, 0, none⟩) 1 1 _) (x_call2 en_23 rfl rfl rfl) ?_
 rintro _ w ⟨rfl, hE⟩
 replace hF := hF.ext hE
 clear hE
 refine ⟨hF.sub (.cons _ (.cons _ (.cons _ (.cons _ (.cons_cons _ (.cons_cons _ .slnil)))))), ?_⟩
 have hx_ : RX w0 [] w [treeD taT] [.int .i64 (6), .string (bs ([])), .slice (some ⟨b60, 0, none⟩) (1) (1), .slice (some ⟨b61, 0, none⟩) (1) (1)] := RX.tree ⟨by omega, by omega⟩ (by simp) (hF.rowX (ids := []) 2 rfl (RX.strs (ks := [[97]]) (by simp)) (by simp) rfl (by omega)) (hF.rowX (ids := []) 1 rfl (RX.num [49] (by simp)) (by simp) rfl (by simp [treesD]))
 have hy_ : RX w0 [] w [treeD tbT] [.int .i64 (6), .string (bs ([])), .slice (some ⟨b59, 0, none⟩) (1) (1), .slice (some ⟨b63, 0, none⟩) (1) (1)] := RX.tree ⟨by omega, by omega⟩ (by simp) (hF.rowX (ids := []) 3 rfl (RX.strs (ks := [[98]]) (by simp)) (by simp) rfl (by omega)) (hF.rowX (ids := []) 0 rfl (RX.num [49] (by simp)) (by simp) rfl (by simp [treesD]))
 refine f_call rfl ((by have h := between_c taT tbT _ _ _ [.int .i64 (6), .string (bs ([])), .slice (some ⟨b60, 0, none⟩) (1) (1), .slice (some ⟨b61, 0, none⟩) (1) (1)] [.int .i64 (6), .string (bs ([])), .slice (some ⟨b59, 0, none⟩) (1) (1), .slice (some ⟨b63, 0, none⟩) (1) (1)] hx_.rep hy_.rep (hG.ext hF.same) (by decide) (by decide) (by decide) (by decide); rw [bet_4.1, bet_4.2] at h; exact h)) (x_call2 en_11 rfl rfl rfl) ?_
 rintro _ w ⟨rfl, hE⟩
 replace hF := hF.ext hE
 clear hE
 refine ⟨hF.sub (.cons _ (.cons _ (.cons _ (.cons _ (.cons_cons _ (.cons_cons _ .slnil)))))), ?_⟩
 refine f_free rfl (v := .tuple #[.int .i64 (1), .int .i64 (0)]) (fun w hC => x_move rfl) (f_free rfl (v := .int .i64 (1)) (fun w hC => x_extract rfl rfl) (f_free rfl (v := .int .i64 (0)) (fun w hC => x_extract rfl rfl) (f_free rfl (v := .int .i64 (1)) (fun w hC => x_assign rfl) (f_free rfl (v := .int .i64 (0)) (fun w hC => x_assign rfl) (d_nil ?_)))))
 exact e_inv ⟨⟨rfl, rfl, rfl, rfl, rfl, rfl, rfl, rfl, rfl, trivial⟩, ((((((hF.front 5 rfl).front 5 rfl).erase 2).erase 2).erase 2).erase 2)⟩
 refine f_new rfl (v := fun b => .slice (some ⟨b, 0, none⟩) 1 1) hF (x_buildSlice (cs := #[.int .i64 (3), .string (bs ([49])), .slice (none) (0) (0), .slice (none) (0) (0)]) Tryz.underlying23 Tryz.sizeOf25 Tryz.zeroValue25 (by decide) (by decide) (by kernel_rfl)) ?_
 clear hF; rintro b64 w hb64 hF -
 refine ⟨hF.sub (.cons _ (.cons _ (.cons _ (.cons_cons _ (.cons_cons _ .slnil))))), ?_⟩
 refine f_new rfl (v := fun b => .slice (some ⟨b, 0, none⟩) 1 1) hF (x_buildSlice (cs := #[.int .i64 (3), .string (bs ([49])), .slice (none) (0) (0), .slice (none) (0) (0)]) Tryz.underlying23 Tryz.sizeOf25 Tryz.zeroValue25 (by decide) (by decide) (by kernel_rfl)) ?_
 clear hF; rintro b65 w hb65 hF -
 refine ⟨hF.sub (.cons _ (.cons _ (.cons _ (.cons _ (.cons_cons _ (.cons_cons _ .slnil)))))), ?_⟩
 refine f_call rfl (map_c (some ⟨b60, 0, none⟩) 1 1 (some ⟨b65, 0, none⟩) 1 1 _) (x_call2 en_23 rfl rfl rfl) ?_
 rintro _ w ⟨rfl, hE⟩
 replace hF := hF.ext hE
 clear hE
 refine ⟨hF.sub (.cons _ (.cons _ (.cons _ (.cons _ (.cons_cons _ (.cons_cons _ .slnil)))))), ?_⟩
 refine f_call rfl (map_c (some ⟨b59, 0, none⟩) 1 1 (some ⟨b64, 0, none⟩) 1 1 _) (x_call2 en_23 rfl rfl rfl) ?_
 rintro _ w ⟨rfl, hE⟩
 replace hF := hF.ext hE
 clear hE
 refine ⟨hF.sub (.cons _ (.cons _ (.cons _ (.cons _ (.cons_cons _ (.cons_cons _ .slnil)))))), ?_⟩
 have hx_ : RX w0 [] w [treeD taT] [.int .i64 (6), .string (bs ([])), .slice (some ⟨b60, 0, none⟩) (1) (1), .slice (some ⟨b65, 0, none⟩) (1) (1)] := RX.tree ⟨by omega, by omega⟩ (by simp) (hF.rowX (ids := []) 2 rfl (RX.strs (ks := [[97]]) (by simp)) (by simp) rfl (by omega)) (hF.rowX (ids := []) 0 rfl (RX.num [49] (by simp)) (by simp) rfl (by simp [treesD]))
 have hy_ : RX w0 [] w [treeD tbT] [.int .i64 (6), .string (bs ([])), .slice (some ⟨b59, 0, none⟩) (1) (1), .slice (some ⟨b64, 0, none⟩) (1) (1)] := RX.tree ⟨by omega, by omega⟩ (by simp) (hF.rowX (ids := []) 3 rfl (RX.strs (ks := [[98]]) (by simp)) (by simp) rfl (by omega)) (hF.rowX (ids := []) 1 rfl (RX.num [49] (by simp)) (by simp) rfl (by simp [treesD]))
 refine f_call rfl ((by have h := between_c taT tbT _ _ _ [.int .i64 (6), .string (bs ([])), .slice (some ⟨b60, 0, none⟩) (1) (1), .slice (some ⟨b65, 0, none⟩) (1) (1)] [.int .i64 (6), .string (bs ([])), .slice (some ⟨b59, 0, none⟩) (1) (1), .slice (some ⟨b64, 0, none⟩) (1) (1)] hx_.rep hy_.rep (hG.ext hF.same) (by decide) (by decide) (by decide) (by decide); rw [bet_4.1, bet_4.2] at h; exact h)) (x_call2 en_11 rfl rfl rfl) ?_
 rintro _ w ⟨rfl, hE⟩
 replace hF := hF.ext hE
 clear hE
 refine ⟨hF.sub (.cons _ (.cons _ (.cons _ (.cons _ (.cons_cons _ (.cons_cons _ .slnil)))))), ?_⟩
 refine f_free rfl (v := .tuple #[.int .i64 (1), .int .i64 (0)]) (fun w hC => x_move rfl) (f_free rfl (v := .int .i64 (1)) (fun w hC => x_extract rfl rfl) (f_free rfl (v := .int .i64 (0)) (fun w hC => x_extract rfl rfl) (f_free rfl (v := .int .i64 (1)) (fun w hC => x_assign rfl) (f_free rfl (v := .int .i64 (0)) (fun w hC => x_assign rfl) (d_nil ?_)))))
 exact e_inv ⟨⟨rfl, rfl, rfl, rfl, rfl, rfl, rfl, rfl, rfl, trivial⟩, ((((((hF.front 5 rfl).front 5 rfl).erase 2).erase 2).erase 2).erase 2)⟩
 refine d_alt ?_ ?_
 refine f_new rfl (v := fun b => .slice (some ⟨b, 0, none⟩) 1 1) hF (x_buildSlice (cs := #[.int .i64 (3), .string (bs ([49])), .slice (none) (0) (0), .slice (none) (0) (0)]) Tryz.underlying23 Tryz.sizeOf25 Tryz.zeroValue25 (by decide) (by decide) (by kernel_rfl)) ?_
 clear hF; rintro b66 w hb66 hF -
 refine ⟨hF.sub (.cons _ (.cons _ (.cons_cons _ (.cons_cons _ .slnil)))), ?_⟩
 refine d_alt ?_ ?_
 refine f_new rfl (v := fun b => .slice (some ⟨b, 0, none⟩) 1 1) hF (x_buildSlice (cs := #[.string (bs ([97]))]) Tryz.underlying22 Tryz.sizeOf9 Tryz.zeroValue9 (by decide) (by decide) (by kernel_rfl)) ?_
 clear hF; rintro b67 w hb67 hF -
 refine ⟨hF.sub (.cons _ (.cons _ (.cons _ (.cons_cons _ (.cons_cons _ .slnil))))), ?_⟩
 refine d_alt ?_ ?_
 refine f_call rfl (map_c (some ⟨b67, 0, none⟩) 1 1 (some ⟨b66, 0, none⟩) 1 1 _) (x_call2 en_23 rfl rfl rfl) ?_
 rintro _ w ⟨rfl, hE⟩
 replace hF := hF.ext hE
 clear hE
 refine ⟨hF.sub (.cons _ (.cons _ (.cons _ (.cons_cons _ (.cons_cons _ .slnil))))), ?_⟩
 refine f_new rfl (v := fun b => .slice (some ⟨b, 0, none⟩) 1 1) hF (x_buildSlice (cs := #[.int .i64 (3), .string (bs ([49])), .slice (none) (0) (0), .slice (none) (0) (0)]) Tryz.underlying23 Tryz.sizeOf25 Tryz.zeroValue25 (by decide) (by decide) (by kernel_rfl)) ?_
 clear hF; rintro b68 w hb68 hF -
 refine ⟨hF.sub (.cons _ (.cons _ (.cons _ (.cons _ (.cons_cons _ (.cons_cons _ .slnil)))))), ?_⟩
 refine f_call rfl (map_c (some ⟨b59, 0, none⟩) 1 1 (some ⟨b68, 0, none⟩) 1 1 _) (x_call2 en_23 rfl rfl rfl) ?_
 rintro _ w ⟨rfl, hE⟩
 replace hF := hF.ext hE
 clear hE
 refine ⟨hF.sub (.cons _ (.cons _ (.cons _ (.cons _ (.cons_cons _ (.cons_cons _ .slnil)))))), ?_⟩
 have hx_ : RX w0 [] w [treeD taT] [.int .i64 (6), .string (bs ([])), .slice (some ⟨b67, 0, none⟩) (1) (1), .slice (some ⟨b66, 0, none⟩) (1) (1)] := RX.tree ⟨by omega, by omega⟩ (by simp) (hF.rowX (ids := []) 1 rfl (RX.strs (ks := [[97]]) (by simp)) (by simp) rfl (by omega)) (hF.rowX (ids := []) 2 rfl (RX.num [49] (by simp)) (by simp) rfl (by simp [treesD]))
 have hy_ : RX w0 [] w [treeD tbT] [.int .i64 (6), .string (bs ([])), .slice (some ⟨b59, 0, none⟩) (1) (1), .slice (some ⟨b68, 0, none⟩) (1) (1)] := RX.tree ⟨by omega, by omega⟩ (by simp) (hF.rowX (ids := []) 3 rfl (RX.strs (ks := [[98]]) (by simp)) (by simp) rfl (by omega)) (hF.rowX (ids := []) 0 rfl (RX.num [49] (by simp)) (by simp) rfl (by simp [treesD]))
 refine f_call rfl ((by have h := between_c taT tbT _ _ _ [.int .i64 (6), .string (bs ([])), .slice (some ⟨b67, 0, none⟩) (1) (1), .slice (some ⟨b66, 0, none⟩) (1) (1)] [.int .i64 (6), .string (bs ([])), .slice (some ⟨b59, 0, none⟩) (1) (1), .slice (some ⟨b68, 0, none⟩) (1) (1)] hx_.rep hy_.rep (hG.ext hF.same) (by decide) (by decide) (by decide) (by decide); rw [bet_4.1, bet_4.2] at h; exact h)) (x_call2 en_11 rfl rfl rfl) ?_
 rintro _ w ⟨rfl, hE⟩
 replace hF := hF.ext hE
 clear hE
 refine ⟨hF.sub (.cons _ (.cons _ (.cons _ (.cons _ (.cons_cons _ (.cons_cons _ .slnil)))))), ?_⟩
 refine f_free rfl (v := .tuple #[.int .i64 (1), .int .i64 (0)]) (fun w hC => x_move rfl) (f_free rfl (v := .int .i64 (1)) (fun w hC => x_extract rfl rfl) (f_free rfl (v := .int .i64 (0)) (fun w hC => x_extract rfl rfl) (f_free rfl (v := .int .i64 (1)) (fun w hC => x_assign rfl) (f_free rfl (v := .int .i64 (0)) (fun w hC => x_assign rfl) (d_nil ?_)))))
 exact e_inv ⟨⟨rfl, rfl, rfl, rfl, rfl, rfl, rfl, rfl, rfl, trivial⟩, ((((((hF.front 5 rfl).front 5 rfl).erase 2).erase 2).erase 2).erase 2)⟩
 refine f_new rfl (v := fun b => .slice (some ⟨b, 0, none⟩) 1 1) hF (x_buildSlice (cs := #[.int .i64 (3), .string (bs ([49])), .slice (none) (0) (0), .slice (none) (0) (0)]) Tryz.underlying23 Tryz.sizeOf25 Tryz.zeroValue25 (by decide) (by decide) (by kernel_rfl)) ?_
 clear hF; rintro b69 w hb69 hF -
 refine ⟨hF.sub (.cons _ (.cons _ (.cons _ (.cons _ (.cons_cons _ (.cons_cons _ .slnil)))))), ?_⟩
 refine f_call rfl (map_c (some ⟨b67, 0, none⟩) 1 1 (some ⟨b66, 0, none⟩) 1 1 _) (x_call2 en_23 rfl rfl rfl) ?_
 rintro _ w ⟨rfl, hE⟩
 replace hF := hF.ext hE
 clear hE
 refine ⟨hF.sub (.cons _ (.cons _ (.cons _ (.cons _ (.cons_cons _ (.cons_cons _ .slnil)))))), ?_⟩
 refine f_call rfl (map_c (some ⟨b59, 0, none⟩) 1 1 (some ⟨b69, 0, none⟩) 1 1 _) (x_call2 en_23 rfl rfl rfl) ?_
 rintro _ w ⟨rfl, hE⟩
 replace hF := hF.ext hE
 clear hE
 refine ⟨hF.sub (.cons _ (.cons _ (.cons _ (.cons _ (.cons_cons _ (.cons_cons _ .slnil)))))), ?_⟩
 have hx_ : RX w0 [] w [treeD taT] [.int .i64 (6), .string (bs ([])), .slice (some ⟨b67, 0, none⟩) (1) (1), .slice (some ⟨b66, 0, none⟩) (1) (1)] := RX.tree ⟨by omega, by omega⟩ (by simp) (hF.rowX (ids := []) 1 rfl (RX.strs (ks := [[97]]) (by simp)) (by simp) rfl (by omega)) (hF.rowX (ids := []) 2 rfl (RX.num [49] (by simp)) (by simp) rfl (by simp [treesD]))
 have hy_ : RX w0 [] w [treeD tbT] [.int .i64 (6), .string (bs ([])), .slice (some ⟨b59, 0, none⟩) (1) (1), .slice (some ⟨b69, 0, none⟩) (1) (1)] := RX.tree ⟨by omega, by omega⟩ (by simp) (hF.rowX (ids := []) 3 rfl (RX.strs (ks := [[98]]) (by simp)) (by simp) rfl (by omega)) (hF.rowX (ids := []) 0 rfl (RX.num [49] (by simp)) (by simp) rfl (by simp [treesD]))
 refine f_call rfl ((by have h := between_c taT tbT _ _ _ [.int .i64 (6), .string (bs ([])), .slice (some ⟨b67, 0, none⟩) (1) (1), .slice (some ⟨b66, 0, none⟩) (1) (1)] [.int .i64 (6), .string (bs ([])), .slice (some ⟨b59, 0, none⟩) (1) (1), .slice (some ⟨b69, 0, none⟩) (1) (1)] hx_.rep hy_.rep (hG.ext hF.same) (by decide) (by decide) (by decide) (by decide); rw [bet_4.1, bet_4.2] at h; exact h)) (x_call2 en_11 rfl rfl rfl) ?_
 rintro _ w ⟨rfl, hE⟩
 replace hF := hF.ext hE
 clear hE
 refine ⟨hF.sub (.cons _ (.cons _ (.cons _ (.cons _ (.cons_cons _ (.cons_cons _ .slnil)))))), ?_⟩
 refine f_free rfl (v := .tuple #[.int .i64 (1), .int .i64 (0)]) (fun w hC => x_move rfl) (f_free rfl (v := .int .i64 (1)) (fun w hC => x_extract rfl rfl) (f_free rfl (v := .int .i64 (0)) (fun w hC => x_extract rfl rfl) (f_free rfl (v := .int .i64 (1)) (fun w hC => x_assign rfl) (f_free rfl (v := .int .i64 (0)) (fun w hC => x_assign rfl) (d_nil ?_)))))
 exact e_inv ⟨⟨rfl, rfl, rfl, rfl, rfl, rfl, rfl, rfl, rfl, trivial⟩, ((((((hF.front 5 rfl).front 5 rfl).erase 2).erase 2).erase 2).erase 2)⟩
 refine f_new rfl (v := fun b => .slice (some ⟨b, 0, none⟩) 1 1) hF (x_buildSlice (cs := #[.int .i64 (3), .string (bs ([49])), .slice (none) (0) (0), .slice (none) (0) (0)]) Tryz.underlying23 Tryz.sizeOf25 Tryz.zeroValue25 (by decide) (by decide) (by kernel_rfl)) ?_
 clear hF; rintro b70 w hb70 hF -
 refine ⟨hF.sub (.cons _ (.cons _ (.cons _ (.cons_cons _ (.cons_cons _ .slnil))))), ?_⟩
 refine f_new rfl (v := fun b => .slice (some ⟨b, 0, none⟩) 1 1) hF (x_buildSlice (cs := #[.string (bs ([97]))]) Tryz.underlying22 Tryz.sizeOf9 Tryz.zeroValue9 (by decide) (by decide) (by kernel_rfl)) ?_
 clear hF; rintro b71 w hb71 hF -
 refine ⟨hF.sub (.cons _ (.cons _ (.cons _ (.cons _ (.cons_cons _ (.cons_cons _ .slnil)))))), ?_⟩
 refine f_call rfl (map_c (some ⟨b71, 0, none⟩) 1 1 (some ⟨b66, 0, none⟩) 1 1 _) (x_call2 en_23 rfl rfl rfl) ?_
 rintro _ w ⟨rfl, hE⟩
 replace hF := hF.ext hE
 clear hE
 refine ⟨hF.sub (.cons _ (.cons _ (.cons _ (.cons _ (.cons_cons _ (.cons_cons _ .slnil)))))), ?_⟩
 refine f_call rfl (map_c (some ⟨b59, 0, none⟩) 1 1 (some ⟨b70, 0, none⟩) 1 1 _) (x_call2 en_23 rfl rfl rfl) ?_
 rintro _ w ⟨rfl, hE⟩
 replace hF := hF.ext hE
 clear hE
 refine ⟨hF.sub (.cons _ (.cons _ (.cons _ (.cons _ (.cons_cons _ (.cons_cons _ .slnil)))))), ?_⟩
 have hx_ : RX w0 [] w [treeD taT] [.int .i64 (6), .string (bs ([])), .slice (some ⟨b71, 0, none⟩) (1) (1), .slice (some ⟨b66, 0, none⟩) (1) (1)] := RX.tree ⟨by omega, by omega⟩ (by simp) (hF.rowX (ids := []) 0 rfl (RX.strs (ks := [[97]]) (by simp)) (by simp) rfl (by omega)) (hF.rowX (ids := []) 2 rfl (RX.num [49] (by simp)) (by simp) rfl (by simp [treesD]))
 have hy_ : RX w0 [] w [treeD tbT] [.int .i64 (6), .string (bs ([])), .slice (some ⟨b59, 0, none⟩) (1) (1), .slice (some ⟨b70, 0, none⟩) (1) (1)] := RX.tree ⟨by omega, by omega⟩ (by simp) (hF.rowX (ids := []) 3 rfl (RX.strs (ks := [[98]]) (by simp)) (by simp) rfl (by omega)) (hF.rowX (ids := []) 1 rfl (RX.num [49] (by simp)) (by simp) rfl (by simp [treesD]))
 refine f_call rfl ((by have h := between_c taT tbT _ _ _ [.int .i64 (6), .string (bs ([])), .slice (some ⟨b71, 0, none⟩) (1) (1), .slice (some ⟨b66, 0, none⟩) (1) (1)] [.int .i64 (6), .string (bs ([])), .slice (some ⟨b59, 0, none⟩) (1) (1), .slice (some ⟨b70, 0, none⟩) (1) (1)] hx_.rep hy_.rep (hG.ext hF.same) (by decide) (by decide) (by decide) (by decide); rw [bet_4.1, bet_4.2] at h; exact h)) (x_call2 en_11 rfl rfl rfl) ?_
 rintro _ w ⟨rfl, hE⟩
 replace hF := hF.ext hE
 clear hE
 refine ⟨hF.sub (.cons _ (.cons _ (.cons _ (.cons _ (.cons_cons _ (.cons_cons _ .slnil)))))), ?_⟩
 refine f_free rfl (v := .tuple #[.int .i64 (1), .int .i64 (0)]) (fun w hC => x_move rfl) (f_free rfl (v := .int .i64 (1)) (fun w hC => x_extract rfl rfl) (f_free rfl (v := .int .i64 (0)) (fun w hC => x_extract rfl rfl) (f_free rfl (v := .int .i64 (1)) (fun w hC => x_assign rfl) (f_free rfl (v := .int .i64 (0)) (fun w hC => x_assign rfl) (d_nil ?_)))))
 exact e_inv ⟨⟨rfl, rfl, rfl, rfl, rfl, rfl, rfl, rfl, rfl, trivial⟩, ((((((hF.front 5 rfl).front 5 rfl).erase 2).erase 2).erase 2).erase 2)⟩
 refine f_new rfl (v := fun b => .slice (some ⟨b, 0, none⟩) 1 1) hF (x_buildSlice (cs := #[.int .i64 (3), .string (bs ([49])), .slice (none) (0) (0), .slice (none) (0) (0)]) Tryz.underlying23 Tryz.sizeOf25 Tryz.zeroValue25 (by decide) (by decide) (by kernel_rfl)) ?_
 clear hF; rintro b72 w hb72 hF -
 refine ⟨hF.sub (.cons _ (.cons _ (.cons_cons _ (.cons_cons _ .slnil)))), ?_⟩
 refine d_alt ?_ ?_
 refine f_new rfl (v := fun b => .slice (some ⟨b, 0, none⟩) 1 1) hF (x_buildSlice (cs := #[.string (bs ([97]))]) Tryz.underlying22 Tryz.sizeOf9 Tryz.zeroValue9 (by decide) (by decide) (by kernel_rfl)) ?_
 clear hF; rintro b73 w hb73 hF -
 refine ⟨hF.sub (.cons _ (.cons _ (.cons _ (.cons_cons _ (.cons_cons _ .slnil))))), ?_⟩
 refine f_new rfl (v := fun b => .slice (some ⟨b, 0, none⟩) 1 1) hF (x_buildSlice (cs := #[.int .i64 (3), .string (bs ([49])), .slice (none) (0) (0), .slice (none) (0) (0)]) Tryz.underlying23 Tryz.sizeOf25 Tryz.zeroValue25 (by decide) (by decide) (by kernel_rfl)) ?_
 clear hF; rintro b74 w hb74 hF -
 refine ⟨hF.sub (.cons _ (.cons _ (.cons _ (.cons _ (.cons_cons _ (.cons_cons _ .slnil)))))), ?_⟩
 refine f_call rfl (map_c (some ⟨b73, 0, none⟩) 1 1 (some ⟨b74, 0, none⟩) 1 1 _) (x_call2 en_23 rfl rfl rfl) ?_
 rintro _ w ⟨rfl, hE⟩
 replace hF := hF.ext hE
 clear hE
 refine ⟨hF.sub (.cons _ (.cons _ (.cons _ (.cons _ (.cons_cons _ (.cons_cons _ .slnil)))))), ?_⟩
 refine f_call rfl (map_c (some ⟨b59, 0, none⟩) 1 1 (some ⟨b72, 0, none⟩) 1 1 _) (x_call2 en_23 rfl rfl rfl) ?_
 rintro _ w ⟨rfl, hE⟩
 replace hF := hF.ext hE
 clear hE
 refine ⟨hF.sub (.cons _ (.cons _ (.cons _ (.cons _ (.cons_cons _ (.cons_cons _ .slnil)))))), ?_⟩
 have hx_ : RX w0 [] w [treeD taT] [.int .i64 (6), .string (bs ([])), .slice (some ⟨b73, 0, none⟩) (1) (1), .slice (some ⟨b74, 0, none⟩) (1) (1)] := RX.tree ⟨by omega, by omega⟩ (by simp) (hF.rowX (ids := []) 1 rfl (RX.strs (ks := [[97]]) (by simp)) (by simp) rfl (by omega)) (hF.rowX (ids := []) 0 rfl (RX.num [49] (by simp)) (by simp) rfl (by simp [treesD]))
 have hy_ : RX w0 [] w [treeD tbT] [.int .i64 (6), .string (bs ([])), .slice (some ⟨b59, 0, none⟩) (1) (1), .slice (some ⟨b72, 0, none⟩) (1) (1)] := RX.tree ⟨by omega, by omega⟩ (by simp) (hF.rowX (ids := []) 3 rfl (RX.strs (ks := [[98]]) (by simp)) (by simp) rfl (by omega)) (hF.rowX (ids := []) 2 rfl (RX.num [49] (by simp)) (by simp) rfl (by simp [treesD]))
 refine f_call rfl ((by have h := between_c taT tbT _ _ _ [.int .i64 (6), .string (bs ([])), .slice (some ⟨b73, 0, none⟩) (1) (1), .slice (some ⟨b74, 0, none⟩) (1) (1)] [.int .i64 (6), .string (bs ([])), .slice (some ⟨b59, 0, none⟩) (1) (1), .slice (some ⟨b72, 0, none⟩) (1) (1)] hx_.rep hy_.rep (hG.ext hF.same) (by decide) (by decide) (by decide) (by decide); rw [bet_4.1, bet_4.2] at h; exact h)) (x_call2 en_11 rfl rfl rfl) ?_
 rintro _ w ⟨rfl, hE⟩
 replace hF := hF.ext hE
 clear hE
 refine ⟨hF.sub (.cons _ (.cons _ (.cons _ (.cons _ (.cons_cons _ (.cons_cons _ .slnil)))))), ?_⟩
 refine f_free rfl (v := .tuple #[.int .i64 (1), .int .i64 (0)]) (fun w hC => x_move rfl) (f_free rfl (v := .int .i64 (1)) (fun w hC => x_extract rfl rfl) (f_free rfl (v := .int .i64 (0)) (fun w hC => x_extract rfl rfl) (f_free rfl (v := .int .i64 (1)) (fun w hC => x_assign rfl) (f_free rfl (v := .int .i64 (0)) (fun w hC => x_assign rfl) (d_nil ?_)))))
 exact e_inv ⟨⟨rfl, rfl, rfl, rfl, rfl, rfl, rfl, rfl, rfl, trivial⟩, ((((((hF.front 5 rfl).front 5 rfl).erase 2).erase 2).erase 2).erase 2)⟩
 refine f_new rfl (v := fun b => .slice (some ⟨b, 0, none⟩) 1 1) hF (x_buildSlice (cs := #[.int .i64 (3), .string (bs ([49])), .slice (none) (0) (0), .slice (none) (0) (0)]) Tryz.underlying23 Tryz.sizeOf25 Tryz.zeroValue25 (by decide) (by decide) (by kernel_rfl)) ?_
 clear hF; rintro b75 w hb75 hF -
 refine ⟨hF.sub (.cons _ (.cons _ (.cons _ (.cons_cons _ (.cons_cons _ .slnil))))), ?_⟩
 refine f_new rfl (v := fun b => .slice (some ⟨b, 0, none⟩) 1 1) hF (x_buildSlice (cs := #[.string (bs ([97]))]) Tryz.underlying22 Tryz.sizeOf9 Tryz.zeroValue9 (by decide) (by decide) (by kernel_rfl)) ?_
 clear hF; rintro b76 w hb76 hF -
 refine ⟨hF.sub (.cons _ (.cons _ (.cons _ (.cons _ (.cons_cons _ (.cons_cons _ .slnil)))))), ?_⟩
 refine f_call rfl (map_c (some ⟨b76, 0, none⟩) 1 1 (some ⟨b75, 0, none⟩) 1 1 _) (x_call2 en_23 rfl rfl rfl) ?_
 rintro _ w ⟨rfl, hE⟩
 replace hF := hF.ext hE
 clear hE
 refine ⟨hF.sub (.cons _ (.cons _ (.cons _ (.cons _ (.cons_cons _ (.cons_cons _ .slnil)))))), ?_⟩
 refine f_call rfl (map_c (some ⟨b59, 0, none⟩) 1 1 (some ⟨b72, 0, none⟩) 1 1 _) (x_call2 en_23 rfl rfl rfl) ?_
 rintro _ w ⟨rfl, hE⟩
 replace hF := hF.ext hE
 clear hE
 refine ⟨hF.sub (.cons _ (.cons _ (.cons _ (.cons _ (.cons_cons _ (.cons_cons _ .slnil)))))), ?_⟩
 have hx_ : RX w0 [] w [treeD taT] [.int .i64 (6), .string (bs ([])), .slice (some ⟨b76, 0, none⟩) (1) (1), .slice (some ⟨b75, 0, none⟩) (1) (1)] := RX.tree ⟨by omega, by omega⟩ (by simp) (hF.rowX (ids := []) 0 rfl (RX.strs (ks := [[97]]) (by simp)) (by simp) rfl (by omega)) (hF.rowX (ids := []) 1 rfl (RX.num [49] (by simp)) (by simp) rfl (by simp [treesD]))
 have hy_ : RX w0 [] w [treeD tbT] [.int .i64 (6), .string (bs ([])), .slice (some ⟨b59, 0, none⟩) (1) (1), .slice (some ⟨b72, 0, none⟩) (1) (1)] := RX.tree ⟨by omega, by omega⟩ (by simp) (hF.rowX (ids := []) 3 rfl (RX.strs (ks := [[98]]) (by simp)) (by simp) rfl (by omega)) (hF.rowX (ids := []) 2 rfl (RX.num [49] (by simp)) (by simp) rfl (by simp [treesD]))
 refine f_call rfl ((by have h := between_c taT tbT _ _ _ [.int .i64 (6), .string (bs ([])), .slice (some ⟨b76, 0, none⟩) (1) (1), .slice (some ⟨b75, 0, none⟩) (1) (1)] [.int .i64 (6), .string (bs ([])), .slice (some ⟨b59, 0, none⟩) (1) (1), .slice (some ⟨b72, 0, none⟩) (1) (1)] hx_.rep hy_.rep (hG.ext hF.same) (by decide) (by decide) (by decide) (by decide); rw [bet_4.1, bet_4.2] at h; exact h)) (x_call2 en_11 rfl rfl rfl) ?_
 rintro _ w ⟨rfl, hE⟩
 replace hF := hF.ext hE
 clear hE
 refine ⟨hF.sub (.cons _ (.cons _ (.cons _ (.cons _ (.cons_cons _ (.cons_cons _ .slnil)))))), ?_⟩
 refine f_free rfl (v := .tuple #[.int .i64 (1), .int .i64 (0)]) (fun w hC => x_move rfl) (f_free rfl (v := .int .i64 (1)) (fun w hC => x_extract rfl rfl) (f_free rfl (v := .int .i64 (0)) (fun w hC => x_extract rfl rfl) (f_free rfl (v := .int .i64 (1)) (fun w hC => x_assign rfl) (f_free rfl (v := .int .i64 (0)) (fun w hC => x_assign rfl) (d_nil ?_)))))
 exact e_inv ⟨⟨rfl, rfl, rfl, rfl, rfl, rfl, rfl, rfl, rfl, trivial⟩, ((((((hF.front 5 rfl).front 5 rfl).erase 2).erase 2).erase 2).erase 2)⟩
 refine f_new rfl (v := fun b => .slice (some ⟨b, 0, none⟩) 1 1) hF (x_buildSlice (cs := #[.int .i64 (3), .string (bs ([49])), .slice (none) (0) (0), .slice (none) (0) (0)]) Tryz.underlying23 Tryz.sizeOf25 Tryz.zeroValue25 (by decide) (by decide) (by kernel_rfl)) ?_
 clear hF; rintro b77 w hb77 hF -
 refine ⟨hF.sub (.cons _ (.cons_cons _ (.cons_cons _ .slnil))), ?_⟩
 refine d_alt ?_ ?_
 refine f_new rfl (v := fun b => .slice (some ⟨b, 0, none⟩) 1 1) hF (x_buildSlice (cs := #[.string (bs ([97]))]) Tryz.underlying22 Tryz.sizeOf9 Tryz.zeroValue9 (by decide) (by decide) (by kernel_rfl)) ?_
 clear hF; rintro b78 w hb78 hF -
 refine ⟨hF.sub (.cons _ (.cons _ (.cons_cons _ (.cons_cons _ .slnil)))), ?_⟩
 refine d_alt ?_ ?_
 refine f_new rfl (v := fun b => .slice (some ⟨b, 0, none⟩) 1 1) hF (x_buildSlice (cs := #[.int .i64 (3), .string (bs ([49])), .slice (none) (0) (0), .slice (none) (0) (0)]) Tryz.underlying23 Tryz.sizeOf25 Tryz.zeroValue25 (by decide) (by decide) (by kernel_rfl)) ?_
 clear hF; rintro b79 w hb79 hF -
 refine ⟨hF.sub (.cons _ (.cons _ (.cons _ (.cons_cons _ (.cons_cons _ .slnil))))), ?_⟩
 refine d_alt ?_ ?_
 refine f_call rfl (map_c (some ⟨b78, 0, none⟩) 1 1 (some ⟨b79, 0, none⟩) 1 1 _) (x_call2 en_23 rfl rfl rfl) ?_
 rintro _ w ⟨rfl, hE⟩
 replace hF := hF.ext hE
 clear hE
 refine ⟨hF.sub (.cons _ (.cons _ (.cons _ (.cons_cons _ (.cons_cons _ .slnil))))), ?_⟩
 refine f_new rfl (v := fun b => .slice (some ⟨b, 0, none⟩) 1 1) hF (x_buildSlice (cs := #[.string (bs ([98]))]) Tryz.underlying22 Tryz.sizeOf9 Tryz.zeroValue9 (by decide) (by decide) (by kernel_rfl)) ?_
 clear hF; rintro b80 w hb80 hF -
 refine ⟨hF.sub (.cons _ (.cons _ (.cons _ (.cons _ (.cons_cons _ (.cons_cons _ .slnil)))))), ?_⟩
 refine f_call rfl (map_c (some ⟨b80, 0, none⟩) 1 1 (some ⟨b77, 0, none⟩) 1 1 _) (x_call2 en_23 rfl rfl rfl) ?_
 rintro _ w ⟨rfl, hE⟩
 replace hF := hF.ext hE
 clear hE
 refine ⟨hF.sub (.cons _ (.cons _ (.cons _ (.cons _ (.cons_cons _ (.cons_cons _ .slnil)))))), ?_⟩
 have hx_ : RX w0 [] w [treeD taT] [.int .i64 (6), .string (bs ([])), .slice (some ⟨b78, 0, none⟩) (1) (1), .slice (some ⟨b79, 0, none⟩) (1) (1)] := RX.tree ⟨by omega, by omega⟩ (by simp) (hF.rowX (ids := []) 2 rfl (RX.strs (ks := [[97]]) (by simp)) (by simp) rfl (by omega)) (hF.rowX (ids := []) 1 rfl (RX.num [49] (by simp)) (by simp) rfl (by simp [treesD]))
 have hy_ : RX w0 [] w [treeD tbT] [.int .i64 (6), .string (bs ([])), .slice (some ⟨b80, 0, none⟩) (1) (1), .slice (some ⟨b77, 0, none⟩) (1) (1)] := RX.tree ⟨by omega, by omega⟩ (by simp) (hF.rowX (ids := []) 0 rfl (RX.strs (ks := [[98]]) (by simp)) (by simp) rfl (by omega)) (hF.rowX (ids := []) 3 rfl (RX.num [49] (by simp)) (by simp) rfl (by simp [treesD]))
 refine f_call rfl ((by have h := between_c taT tbT _ _ _ [.int .i64 (6), .string (bs ([])), .slice (some ⟨b78, 0, none⟩) (1) (1), .slice (some ⟨b79, 0, none⟩) (1) (1)] [.int .i64 (6), .string (bs ([])), .slice (some ⟨b80, 0, none⟩) (1) (1), .slice (some ⟨b77, 0, none⟩) (1) (1)] hx_.rep hy_.rep (hG.ext hF.same) (by decide) (by decide) (by decide) (by decide); rw [bet_4.1, bet_4.2] at h; exact h)) (x_call2 en_11 rfl rfl rfl) ?_
 rintro _ w ⟨rfl, hE⟩
 replace hF := hF.ext hE
 clear hE
 refine ⟨hF.sub (.cons _ (.cons _ (.cons _ (.cons _ (.cons_cons _ (.cons_cons _ .slnil)))))), ?_⟩
 refine f_free rfl (v := .tuple #[.int .i64 (1), .int .i64 (0)]) (fun w hC => x_move rfl) (f_free rfl (v := .int .i64 (1)) (fun w hC => x_extract rfl rfl) (f_free rfl (v := .int .i64 (0)) (fun w hC => x_extract rfl rfl) (f_free rfl (v := .int .i64 (1)) (fun w hC => x_assign rfl) (f_free rfl (v := .int .i64 (0)) (fun w hC => x_assign rfl) (d_nil ?_)))))
 exact e_inv ⟨⟨rfl, rfl, rfl, rfl, rfl, rfl, rfl, rfl, rfl, trivial⟩, ((((((hF.front 5 rfl).front 5 rfl).erase 2).erase 2).erase 2).erase 2)⟩
 refine f_new rfl (v := fun b => .slice (some ⟨b, 0, none⟩) 1 1) hF (x_buildSlice (cs := #[.string (bs ([98]))]) Tryz.underlying22 Tryz.sizeOf9 Tryz.zeroValue9 (by decide) (by decide) (by kernel_rfl)) ?_
 clear hF; rintro b81 w hb81 hF -
 refine ⟨hF.sub (.cons _ (.cons _ (.cons _ (.cons _ (.cons_cons _ (.cons_cons _ .slnil)))))), ?_⟩
 refine f_call rfl (map_c (some ⟨b78, 0, none⟩) 1 1 (some ⟨b79, 0, none⟩) 1 1 _) (x_call2 en_23 rfl rfl rfl) ?_
 rintro _ w ⟨rfl, hE⟩
 replace hF := hF.ext hE
 clear hE
 refine ⟨hF.sub (.cons _ (.cons _ (.cons _ (.cons _ (.cons_cons _ (.cons_cons _ .slnil)))))), ?_⟩
 refine f_call rfl (map_c (some ⟨b81, 0, none⟩) 1 1 (some ⟨b77, 0, none⟩) 1 1 _) (x_call2 en_23 rfl rfl rfl) ?_
 rintro _ w ⟨rfl, hE⟩
 replace hF := hF.ext hE
 clear hE
 refine ⟨hF.sub (.cons _ (.cons _ (.cons _ (.cons _ (.cons_cons _ (.cons_cons _ .slnil)))))), ?_⟩
 have hx_ : RX w0 [] w [treeD taT] [.int .i64 (6), .string (bs ([])), .slice (some ⟨b78, 0, none⟩) (1) (1), .slice (some ⟨b79, 0, none⟩) (1) (1)] := RX.tree ⟨by omega, by omega⟩ (by simp) (hF.rowX (ids := []) 2 rfl (RX.strs (ks := [[97]]) (by simp)) (by simp) rfl (by omega)) (hF.rowX (ids := []) 1 rfl (RX.num [49] (by simp)) (by simp) rfl (by simp [treesD]))
 have hy_ : RX w0 [] w [treeD tbT] [.int .i64 (6), .string (bs ([])), .slice (some ⟨b81, 0, none⟩) (1) (1), .slice (some ⟨b77, 0, none⟩) (1) (1)] := RX.tree ⟨by omega, by omega⟩ (by simp) (hF.rowX (ids := []) 0 rfl (RX.strs (ks := [[98]]) (by simp)) (by simp) rfl (by omega)) (hF.rowX (ids := []) 3 rfl (RX.num [49] (by simp)) (by simp) rfl (by simp [treesD]))
 refine f_call rfl ((by have h := between_c taT tbT _ _ _ [.int .i64 (6), .string (bs ([])), .slice (some ⟨b78, 0, none⟩) (1) (1), .slice (some ⟨b79, 0, none⟩) (1) (1)] [.int .i64 (6), .string (bs ([])), .slice (some ⟨b81, 0, none⟩) (1) (1), .slice (some ⟨b77, 0, none⟩) (1) (1)] hx_.rep hy_.rep (hG.ext hF.same) (by decide) (by decide) (by decide) (by decide); rw [bet_4.1, bet_4.2] at h; exact h)) (x_call2 en_11 rfl rfl rfl) ?_
 rintro _ w ⟨rfl, hE⟩
 replace hF := hF.ext hE
 clear hE
 refine ⟨hF.sub (.cons _ (.cons _ (.cons _ (.cons _ (.cons_cons _ (.cons_cons _ .slnil)))))), ?_⟩
 refine f_free rfl (v := .tuple #[.int .i64 (1), .int .i64 (0)]) (fun w hC => x_move rfl) (f_free rfl (v := .int .i64 (1)) (fun w hC => x_extract rfl rfl) (f_free rfl (v := .int .i64 (0)) (fun w hC => x_extract rfl rfl) (f_free rfl (v := .int .i64 (1)) (fun w hC => x_assign rfl) (f_free rfl (v := .int .i64 (0)) (fun w hC => x_assign rfl) (d_nil ?_)))))
 exact e_inv ⟨⟨rfl, rfl, rfl, rfl, rfl, rfl, rfl, rfl, rfl, trivial⟩, ((((((hF.front 5 rfl).front 5 rfl).erase 2).erase 2).erase 2).erase 2)⟩
 refine f_new rfl (v := fun b => .slice (some ⟨b, 0, none⟩) 1 1) hF (x_buildSlice (cs := #[.string (bs ([98]))]) Tryz.underlying22 Tryz.sizeOf9 Tryz.zeroValue9 (by decide) (by decide) (by kernel_rfl)) ?_
 clear hF; rintro b82 w hb82 hF -
 refine ⟨hF.sub (.cons _ (.cons _ (.cons _ (.cons_cons _ (.cons_cons _ .slnil))))), ?_⟩
 refine f_new rfl (v := fun b => .slice (some ⟨b, 0, none⟩) 1 1) hF (x_buildSlice (cs := #[.int .i64 (3), .string (bs ([49])), .slice (none) (0) (0), .slice (none) (0) (0)]) Tryz.underlying23 Tryz.sizeOf25 Tryz.zeroValue25 (by decide) (by decide) (by kernel_rfl)) ?_
 clear hF; rintro b83 w hb83 hF -
 refine ⟨hF.sub (.cons _ (.cons _ (.cons _ (.cons _ (.cons_cons _ (.cons_cons _ .slnil)))))), ?_⟩
 refine f_call rfl (map_c (some ⟨b78, 0, none⟩) 1 1 (some ⟨b83, 0, none⟩) 1 1 _) (x_call2 en_23 rfl rfl rfl) ?_
 rintro _ w ⟨rfl, hE⟩
 replace hF := hF.ext hE
 clear hE
 refine ⟨hF.sub (.cons _ (.cons _ (.cons _ (.cons _ (.cons_cons _ (.cons_cons _ .slnil)))))), ?_⟩
 refine f_call rfl (map_c (some ⟨b82, 0, none⟩) 1 1 (some ⟨b77, 0, none⟩) 1 1 _) (x_call2 en_23 rfl rfl rfl) ?_
 rintro _ w ⟨rfl, hE⟩
 replace hF := hF.ext hE
 clear hE
 refine ⟨hF.sub (.cons _ (.cons _ (.cons _ (.cons _ (.cons_cons _ (.cons_cons _ .slnil)))))), ?_⟩
 have hx_ : RX w0 [] w [treeD taT] [.int .i64 (6), .string (bs ([])), .slice (some ⟨b78, 0, none⟩) (1) (1), .slice (some ⟨b83, 0, none⟩) (1) (1)] := RX.tree ⟨by omega, by omega⟩ (by simp) (hF.rowX (ids := []) 2 rfl (RX.strs (ks := [[97]]) (by simp)) (by simp) rfl (by omega)) (hF.rowX (ids := []) 0 rfl (RX.num [49] (by simp)) (by simp) rfl (by simp [treesD]))
 have hy_ : RX w0 [] w [treeD tbT] [.int .i64 (6), .string (bs ([])), .slice (some ⟨b82, 0, none⟩) (1) (1), .slice (some ⟨b77, 0, none⟩) (1) (1)] := RX.tree ⟨by omega, by omega⟩ (by simp) (hF.rowX (ids := []) 1 rfl (RX.strs (ks := [[98]]) (by simp)) (by simp) rfl (by omega)) (hF.rowX (ids := []) 3 rfl (RX.num [49] (by simp)) (by simp) rfl (by simp [treesD]))
 refine f_call rfl ((by have h := between_c taT tbT _ _ _ [.int .i64 (6), .string (bs ([])), .slice (some ⟨b78, 0, none⟩) (1) (1), .slice (some ⟨b83, 0, none⟩) (1) (1)] [.int .i64 (6), .string (bs ([])), .slice (some ⟨b82, 0, none⟩) (1) (1), .slice (some ⟨b77, 0, none⟩) (1) (1)] hx_.rep hy_.rep (hG.ext hF.same) (by decide) (by decide) (by decide) (by decide); rw [bet_4.1, bet_4.2] at h; exact h)) (x_call2 en_11 rfl rfl rfl) ?_
 rintro _ w ⟨rfl, hE⟩
 replace hF := hF.ext hE
 clear hE
 refine ⟨hF.sub (.cons _ (.cons _ (.cons _ (.cons _ (.cons_cons _ (.cons_cons _ .slnil)))))), ?_⟩
 refine f_free rfl (v := .tuple #[.int .i64 (1), .int .i64 (0)]) (fun w hC => x_move rfl) (f_free rfl (v := .int .i64 (1)) (fun w hC => x_extract rfl rfl) (f_free rfl (v := .int .i64 (0)) (fun w hC => x_extract rfl rfl) (f_free rfl (v := .int .i64 (1)) (fun w hC => x_assign rfl) (f_free rfl (v := .int .i64 (0)) (fun w hC => x_assign rfl) (d_nil ?_)))))
 exact e_inv ⟨⟨rfl, rfl, rfl, rfl, rfl, rfl, rfl, rfl, rfl, trivial⟩, ((((((hF.front 5 rfl).front 5 rfl).erase 2).erase 2).erase 2).erase 2)⟩
 refine d_alt ?_ ?_
 refine f_new rfl (v := fun b => .slice (some ⟨b, 0, none⟩) 1 1) hF (x_buildSlice (cs := #[.int .i64 (3), .string (bs ([49])), .slice (none) (0) (0), .slice (none) (0) (0)]) Tryz.underlying23 Tryz.sizeOf25 Tryz.zeroValue25 (by decide) (by decide) (by kernel_rfl)) ?_
 clear hF; rintro b84 w hb84 hF -
 refine ⟨hF.sub (.cons _ (.cons _ (.cons_cons _ (.cons_cons _ .slnil)))), ?_⟩
 refine d_alt ?_ ?_
 refine f_new rfl (v := fun b => .slice (some ⟨b, 0, none⟩) 1 1) hF (x_buildSlice (cs := #[.string (bs ([97]))]) Tryz.underlying22 Tryz.sizeOf9 Tryz.zeroValue9 (by decide) (by decide) (by kernel_rfl)) ?_
 clear hF; rintro b85 w hb85 hF -
 refine ⟨hF.sub (.cons _ (.cons _ (.cons _ (.cons_cons _ (.cons_cons _ .slnil))))), ?_⟩
 refine d_alt ?_ ?_
 refine f_call rfl (map_c (some ⟨b85, 0, none⟩) 1 1 (some ⟨b84, 0, none⟩) 1 1 _) (x_call2 en_23 rfl rfl rfl) ?_
 rintro _ w ⟨rfl, hE⟩
 replace hF := hF.ext hE
 clear hE
 refine ⟨hF.sub (.cons _ (.cons _ (.cons _ (.cons_cons _ (.cons_cons _ .slnil))))), ?_⟩
 refine f_new rfl (v := fun b => .slice (some ⟨b, 0, none⟩) 1 1) hF (x_buildSlice (cs := #[.string (bs ([98]))]) Tryz.underlying22 Tryz.sizeOf9 Tryz.zeroValue9 (by decide) (by decide) (by kernel_rfl)) ?_
 clear hF; rintro b86 w hb86 hF -
 refine ⟨hF.sub (.cons _ (.cons _ (.cons _ (.cons _ (.cons_cons _ (.cons_cons _ .slnil)))))), ?_⟩
 refine f_call rfl (map_c (some ⟨b86, 0, none⟩) 1 1 (some ⟨b77, 0, none⟩) 1 1 _) (x_call2 en_23 rfl rfl rfl) ?_
 rintro _ w ⟨rfl, hE⟩
 replace hF := hF.ext hE
 clear hE
 refine ⟨hF.sub (.cons _ (.cons _ (.cons _ (.cons _ (.cons_cons _ (.cons_cons _ .slnil)))))), ?_⟩
 have hx_ : RX w0 [] w [treeD taT] [.int .i64 (6), .string (bs ([])), .slice (some ⟨b85, 0, none⟩) (1) (1), .slice (some ⟨b84, 0, none⟩) (1) (1)] := RX.tree ⟨by omega, by omega⟩ (by simp) (hF.rowX (ids := []) 1 rfl (RX.strs (ks := [[97]]) (by simp)) (by simp) rfl (by omega)) (hF.rowX (ids := []) 2 rfl (RX.num [49] (by simp)) (by simp) rfl (by simp [treesD]))
 have hy_ : RX w0 [] w [treeD tbT] [.int .i64 (6), .string (bs ([])), .slice (some ⟨b86, 0, none⟩) (1) (1), .slice (some ⟨b77, 0, none⟩) (1) (1)] := RX.tree ⟨by omega, by omega⟩ (by simp) (hF.rowX (ids := []) 0 rfl (RX.strs (ks := [[98]]) (by simp)) (by simp) rfl (by omega)) (hF.rowX (ids := []) 3 rfl (RX.num [49] (by simp)) (by simp) rfl (by simp [treesD]))
 refine f_call rfl ((by have h := between_c taT tbT _ _ _ [.int .i64 (6), .string (bs ([])), .slice (some ⟨b85, 0, none⟩) (1) (1), .slice (some ⟨b84, 0, none⟩) (1) (1)] [.int .i64 (6), .string (bs ([])), .slice (some ⟨b86, 0, none⟩) (1) (1), .slice (some ⟨b77, 0, none⟩) (1) (1)] hx_.rep hy_.rep (hG.ext hF.same) (by decide) (by decide) (by decide) (by decide); rw [bet_4.1, bet_4.2] at h; exact h)) (x_call2 en_11 rfl rfl rfl) ?_
 rintro _ w ⟨rfl, hE⟩
 replace hF := hF.ext hE
 clear hE
 refine ⟨hF.sub (.cons _ (.cons _ (.cons _ (.cons _ (.cons_cons _ (.cons_cons _ .slnil)))))), ?_⟩
 refine f_free rfl (v := .tuple #[.int .i64 (1), .int .i64 (0)]) (fun w hC => x_move rfl) (f_free rfl (v := .int .i64 (1)) (fun w hC => x_extract rfl rfl) (f_free rfl (v := .int .i64 (0)) (fun w hC => x_extract rfl rfl) (f_free rfl (v := .int .i64 (1)) (fun w hC => x_assign rfl) (f_free rfl (v := .int .i64 (0)) (fun w hC => x_assign rfl) (d_nil ?_)))))
 exact e_inv ⟨⟨rfl, rfl, rfl, rfl, rfl, rfl, rfl, rfl, rfl, trivial⟩, ((((((hF.front 5 rfl).front 5 rfl).erase 2).erase 2).erase 2).erase 2)⟩
 refine f_new rfl (v := fun b => .slice (some ⟨b, 0, none⟩) 1 1) hF (x_buildSlice (cs := #[.string (bs ([98]))]) Tryz.underlying22 Tryz.sizeOf9 Tryz.zeroValue9 (by decide) (by decide) (by kernel_rfl)) ?_
 clear hF; rintro b87 w hb87 hF -
 refine ⟨hF.sub (.cons _ (.cons _ (.cons _ (.cons _ (.cons_cons _ (.cons_cons _ .slnil)))))), ?_⟩
 refine f_call rfl (map_c (some ⟨b85, 0, none⟩) 1 1 (some ⟨b84, 0, none⟩) 1 1 _) (x_call2 en_23 rfl rfl rfl) ?_
 rintro _ w ⟨rfl, hE⟩
 replace hF := hF.ext hE
 clear hE
 refine ⟨hF.sub (.cons _ (.cons _ (.cons _ (.cons _ (.cons_cons _ (.cons_cons _ .slnil)))))), ?_⟩
 refine f_call rfl (map_c (some ⟨b87, 0, none⟩) 1 1 (some ⟨b77, 0, none⟩) 1 1 _) (x_call2 en_23 rfl rfl rfl) ?_
 rintro _ w ⟨rfl, hE⟩
 replace hF := hF.ext hE
 clear hE
 refine ⟨hF.sub (.cons _ (.cons _ (.cons _ (.cons _ (.cons_cons _ (.cons_cons _ .slnil)))))), ?_⟩
 have hx_ : RX w0 [] w [treeD taT] [.int .i64 (6), .string (bs ([])), .slice (some ⟨b85, 0, none⟩) (1) (1), .slice (some ⟨b84, 0, none⟩) (1) (1)] := RX.tree ⟨by omega, by omega⟩ (by simp) (hF.rowX (ids := []) 1 rfl (RX.strs (ks := [[97]]) (by simp)) (by simp) rfl (by omega)) (hF.rowX (ids := []) 2 rfl (RX.num [49] (by simp)) (by simp) rfl (by simp [treesD]))
 have hy_ : RX w0 [] w [treeD tbT] [.int .i64 (6), .string (bs ([])), .slice (some ⟨b87, 0, none⟩) (1) (1), .slice (some ⟨b77, 0, none⟩) (1) (1)] := RX.tree ⟨by omega, by omega⟩ (by simp) (hF.rowX (ids := []) 0 rfl (RX.strs (ks := [[98]]) (by simp)) (by simp) rfl (by omega)) (hF.rowX (ids := []) 3 rfl (RX.num [49] (by simp)) (by simp) rfl (by simp [treesD]))
 refine f_call rfl ((by have h := between_c taT tbT _ _ _ [.int .i64 (6), .string (bs ([])), .slice (some ⟨b85, 0, none⟩) (1) (1), .slice (some ⟨b84, 0, none⟩) (1) (1)] [.int .i64 (6), .string (bs ([])), .slice (some ⟨b87, 0, none⟩) (1) (1), .slice (some ⟨b77, 0, none⟩) (1) (1)] hx_.rep hy_.rep (hG.ext hF.same) (by decide) (by decide) (by decide) (by decide); rw [bet_4.1, bet_4.2] at h; exact h)) (x_call2 en_11 rfl rfl rfl) ?_
 rintro _ w ⟨rfl, hE⟩
 replace hF := hF.ext hE
 clear hE
 refine ⟨hF.sub (.cons _ (.cons _ (.cons _ (.cons _ (.cons_cons _ (.cons_cons _ .slnil)))))), ?_⟩
 refine f_free rfl (v := .tuple #[.int .i64 (1), .int .i64 (0)]) (fun w hC => x_move rfl) (f_free rfl (v := .int .i64 (1)) (fun w hC => x_extract rfl rfl) (f_free rfl (v := .int .i64 (0)) (fun w hC => x_extract rfl rfl) (f_free rfl (v := .int .i64 (1)) (fun w hC => x_assign rfl) (f_free rfl (v := .int .i64 (0)) (fun w hC => x_assign rfl) (d_nil ?_)))))
 exact e_inv ⟨⟨rfl, rfl, rfl, rfl, rfl, rfl, rfl, rfl, rfl, trivial⟩, ((((((hF.front 5 rfl).front 5 rfl).erase 2).erase 2).erase 2).erase 2)⟩
 refine f_new rfl (v := fun b => .slice (some ⟨b, 0, none⟩) 1 1) hF (x_buildSlice (cs := #[.string (bs ([98]))]) Tryz.underlying22 Tryz.sizeOf9 Tryz.zeroValue9 (by decide) (by decide) (by kernel_rfl)) ?_
 clear hF; rintro b88 w hb88 hF -
 refine ⟨hF.sub (.cons _ (.cons _ (.cons _ (.cons_cons _ (.cons_cons _ .slnil))))), ?_⟩
 refine f_new rfl (v := fun b => .slice (some ⟨b, 0, none⟩) 1 1) hF (x_buildSlice (cs := #[.string (bs ([97]))]) Tryz.underlying22 Tryz.sizeOf9 Tryz.zeroValue9 (by decide) (by decide) (by kernel_rfl)) ?_
 clear hF; rintro b89 w hb89 hF -
 refine ⟨hF.sub (.cons _ (.cons _ (.cons _ (.cons _ (.cons_cons _ (.cons_cons _ .slnil)))))), ?_⟩
 refine f_call rfl (map_c (some ⟨b89, 0, none⟩) 1 1 (some ⟨b84, 0, none⟩) 1 1 _) (x_call2 en_23 rfl rfl rfl) ?_
 rintro _ w ⟨rfl, hE⟩
 replace hF := hF.ext hE
 clear hE
 refine ⟨hF.sub (.cons _ (.cons _ (.cons _ (.cons _ (.cons_cons _ (.cons_cons _ .slnil)))))), ?_⟩
 refine f_call rfl (map_c (some ⟨b88, 0, none⟩) 1 1 (some ⟨b77, 0, none⟩) 1 1 _) (x_call2 en_23 rfl rfl rfl) ?_
 rintro _ w ⟨rfl, hE⟩
 replace hF := hF.ext hE
 clear hE
 refine ⟨hF.sub (.cons _ (.cons _ (.cons _ (.cons _ (.cons_cons _ (.cons_cons _ .slnil)))))), ?_⟩
 have hx_ : RX w0 [] w [treeD taT] [.int .i64 (6), .string (bs ([])), .slice (some ⟨b89, 0, none⟩) (1) (1), .slice (some ⟨b84, 0, none⟩) (1) (1)] := RX.tree ⟨by omega, by omega⟩ (by simp) (hF.rowX (ids := []) 0 rfl (RX.strs (ks := [[97]]) (by simp)) (by simp) rfl (by omega)) (hF.rowX (ids := []) 2 rfl (RX.num [49] (by simp)) (by simp) rfl (by simp [treesD]))
 have hy_ : RX w0 [] w [treeD tbT] [.int .i64 (6), .string (bs ([])), .slice (some ⟨b88, 0, none⟩) (1) (1), .slice (some ⟨b77, 0, none⟩) (1) (1)] := RX.tree ⟨by omega, by omega⟩ (by simp) (hF.rowX (ids := []) 1 rfl (RX.strs (ks := [[98]]) (by simp)) (by simp) rfl (by omega)) (hF.rowX (ids := []) 3 rfl (RX.num [49] (by simp)) (by simp) rfl (by simp [treesD]))
 refine f_call rfl ((by have h := between_c taT tbT _ _ _ [.int .i64 (6), .string (bs ([])), .slice (some ⟨b89, 0, none⟩) (1) (1), .slice (some ⟨b84, 0, none⟩) (1) (1)] [.int .i64 (6), .string (bs ([])), .slice (some ⟨b88, 0, none⟩) (1) (1), .slice (some ⟨b77, 0, none⟩) (1) (1)] hx_.rep hy_.rep (hG.ext hF.same) (by decide) (by decide) (by decide) (by decide); rw [bet_4.1, bet_4.2] at h; exact h)) (x_call2 en_11 rfl rfl rfl) ?_
 rintro _ w ⟨rfl, hE⟩
 replace hF := hF.ext hE
 clear hE
 refine ⟨hF.sub (.cons _ (.cons _ (.cons _ (.cons _ (.cons_cons _ (.cons_cons _ .slnil)))))), ?_⟩
 refine f_free rfl (v := .tuple #[.int .i64 (1), .int .i64 (0)]) (fun w hC => x_move rfl) (f_free rfl (v := .int .i64 (1)) (fun w hC => x_extract rfl rfl) (f_free rfl (v := .int .i64 (0)) (fun w hC => x_extract rfl rfl) (f_free rfl (v := .int .i64 (1)) (fun w hC => x_assign rfl) (f_free rfl (v := .int .i64 (0)) (fun w hC => x_assign rfl) (d_nil ?_)))))
 exact e_inv ⟨⟨rfl, rfl, rfl, rfl, rfl, rfl, rfl, rfl, rfl, trivial⟩, ((((((hF.front 5 rfl).front 5 rfl).erase 2).erase 2).erase 2).erase 2)⟩
 refine f_new rfl (v := fun b => .slice (some ⟨b, 0, none⟩) 1 1) hF (x_buildSlice (cs := #[.string (bs ([98]))]) Tryz.underlying22 Tryz.sizeOf9 Tryz.zeroValue9 (by decide) (by decide) (by kernel_rfl)) ?_
 clear hF; rintro b90 w hb90 hF -
 refine ⟨hF.sub (.cons _ (.cons _ (.cons_cons _ (.cons_cons _ .slnil)))), ?_⟩
 refine d_alt ?_ ?_
 refine f_new rfl (v := fun b => .slice (some ⟨b, 0, none⟩) 1 1) hF (x_buildSlice (cs := #[.string (bs ([97]))]) Tryz.underlying22 Tryz.sizeOf9 Tryz.zeroValue9 (by decide) (by decide) (by kernel_rfl)) ?_
 clear hF; rintro b91 w hb91 hF -
 refine ⟨hF.sub (.cons _ (.cons _ (.cons _ (.cons_cons _ (.cons_cons _ .slnil))))), ?_⟩
 refine f_new rfl (v := fun b => .slice (some ⟨b, 0, none⟩) 1 1) hF (x_buildSlice (cs := #[.int .i64 (3), .string (bs ([49])), .slice (none) (0) (0), .slice (none) (0) (0)]) Tryz.underlying23 Tryz.sizeOf25 Tryz.zeroValue25 (by decide) (by decide) (by kernel_rfl)) ?_
 clear hF; rintro b92 w hb92 hF -
 refine ⟨hF.sub (.cons _ (.cons _ (.cons _ (.cons _ (.cons_cons _ (.cons_cons _ .slnil)))))), ?_⟩
 refine f_call rfl (map_c (some ⟨b91, 0, none⟩) 1 1 (some ⟨b92, 0, none⟩) 1 1 _) (x_call2 en_23 rfl rfl rfl) ?_
 rintro _ w ⟨rfl, hE⟩
 replace hF := hF.ext hE
 clear hE
 refine ⟨hF.sub (.cons _ (.cons _ (.cons _ (.cons _ (.cons_cons _ (.cons_cons _ .slnil)))))), ?_⟩
 refine f_call rfl (map_c (some ⟨b90, 0, none⟩) 1 1 (some ⟨b77, 0, none⟩) 1 1 _) (x_call2 en_23 rfl rfl rfl) ?_
 rintro _ w ⟨rfl, hE⟩
 replace hF := hF.ext hE
 clear hE
 refine ⟨hF.sub (.cons _ (.cons _ (.cons _ (.cons _ (.cons_cons _ (.cons_cons _ .slnil)))))), ?_⟩
 have hx_ : RX w0 [] w [treeD taT] [.int .i64 (6), .string (bs ([])), .slice (some ⟨b91, 0, none⟩) (1) (1), .slice (some ⟨b92, 0, none⟩) (1) (1)] := RX.tree ⟨by omega, by omega⟩ (by simp) (hF.rowX (ids := []) 1 rfl (RX.strs (ks := [[97]]) (by simp)) (by simp) rfl (by omega)) (hF.rowX (ids := []) 0 rfl (RX.num [49] (by simp)) (by simp) rfl (by simp [treesD]))
 have hy_ : RX w0 [] w [treeD tbT] [.int .i64 (6), .string (bs ([])), .slice (some ⟨b90, 0, none⟩) (1) (1), .slice (some ⟨b77, 0, none⟩) (1) (1)] := RX.tree ⟨by omega, by omega⟩ (by simp) (hF.rowX (ids := []) 2 rfl (RX.strs (ks := [[98]]) (by simp)) (by simp) rfl (by omega)) (hF.rowX (ids := []) 3 rfl (RX.num [49] (by simp)) (by simp) rfl (by simp [treesD]))
 refine f_call rfl ((by have h := between_c taT tbT _ _ _ [.int .i64 (6), .string (bs ([])), .slice (some ⟨b91, 0, none⟩) (1) (1), .slice (some ⟨b92, 0, none⟩) (1) (1)] [.int .i64 (6), .string (bs ([])), .slice (some ⟨b90, 0, none⟩) (1) (1), .slice (some ⟨b77, 0, none⟩) (1) (1)] hx_.rep hy_.rep (hG.ext hF.same) (by decide) (by decide) (by decide) (by decide); rw [bet_4.1, bet_4.2] at h; exact h)) (x_call2 en_11 rfl rfl rfl) ?_
 rintro _ w ⟨rfl, hE⟩
 replace hF := hF.ext hE
 clear hE
 refine ⟨hF.sub (.cons _ (.cons _ (.cons _ (.cons _ (.cons_cons _ (.cons_cons _ .slnil)))))), ?_⟩
 refine f_free rfl (v := .tuple #[.int .i64 (1), .int .i64 (0)]) (fun w hC => x_move rfl) (f_free rfl (v := .int .i64 (1)) (fun w hC => x_extract rfl rfl) (f_free rfl (v := .int .i64 (0)) (fun w hC => x_extract rfl rfl) (f_free rfl (v := .int .i64 (1)) (fun w hC => x_assign rfl) (f_free rfl (v := .int .i64 (0)) (fun w hC => x_assign rfl) (d_nil ?_)))))
 exact e_inv ⟨⟨rfl, rfl, rfl, rfl, rfl, rfl, rfl, rfl, rfl, trivial⟩, ((((((hF.front 5 rfl).front 5 rfl).erase 2).erase 2).erase 2).erase 2)⟩
 refine f_new rfl (v := fun b => .slice (some ⟨b, 0, none⟩) 1 1) hF (x_buildSlice (cs := #[.int .i64 (3), .string (bs ([49])), .slice (none) (0) (0), .slice (none) (0) (0)]) Tryz.underlying23 Tryz.sizeOf25 Tryz.zeroValue25 (by decide) (by decide) (by kernel_rfl)) ?_
 clear hF; rintro b93 w hb93 hF -
 refine ⟨hF.sub (.cons _ (.cons _ (.cons _ (.cons_cons _ (.cons_cons _ .slnil))))), ?_⟩
 refine f_new rfl (v := fun b => .slice (some ⟨b, 0, none⟩) 1 1) hF (x_buildSlice (cs := #[.string (bs ([97]))]) Tryz.underlying22 Tryz.sizeOf9 Tryz.zeroValue9 (by decide) (by decide) (by kernel_rfl)) ?_
 clear hF; rintro b94 w hb94 hF -
 refine ⟨hF.sub (.cons _ (.cons _ (.cons _ (.cons _ (.cons_cons _ (.cons_cons _ .slnil)))))), ?_⟩
 refine f_call rfl (map_c (some ⟨b94, 0, none⟩) 1 1 (some ⟨b93, 0, none⟩) 1 1 _) (x_call2 en_23 rfl rfl rfl) ?_
 rintro _ w ⟨rfl, hE⟩
 replace hF := hF.ext hE
 clear hE
 refine ⟨hF.sub (.cons _ (.cons _ (.cons _ (.cons _ (.cons_cons _ (.cons_cons _ .slnil)))))), ?_⟩
 refine f_call rfl (map_c (some ⟨b90, 0, none⟩) 1 1 (some ⟨b77, 0, none⟩) 1 1 _) (x_call2 en_23 rfl rfl rfl) ?_
 rintro _ w ⟨rfl, hE⟩
 replace hF := hF.ext hE
 clear hE
 refine ⟨hF.sub (.cons _ (.cons _ (.cons _ (.cons _ (.cons_cons _ (.cons_cons _ .slnil)))))), ?_⟩
 have hx_ : RX w0 [] w [treeD taT] [.int .i64 (6), .string (bs ([])), .slice (some ⟨b94, 0, none⟩) (1) (1), .slice (some ⟨b93, 0, none⟩) (1) (1)] := RX.tree ⟨by omega, by omega⟩ (by simp) (hF.rowX (ids := []) 0 rfl (RX.strs (ks := [[97]]) (by simp)) (by simp) rfl (by omega)) (hF.rowX (ids := []) 1 rfl (RX.num [49] (by simp)) (by simp) rfl (by simp [treesD]))
 have hy_ : RX w0 [] w [treeD tbT] [.int .i64 (6), .string (bs ([])), .slice (some ⟨b90, 0, none⟩) (1) (1), .slice (some ⟨b77, 0, none⟩) (1) (1)] := RX.tree ⟨by omega, by omega⟩ (by simp) (hF.rowX (ids := []) 2 rfl (RX.strs (ks := [[98]]) (by simp)) (by simp) rfl (by omega)) (hF.rowX (ids := []) 3 rfl (RX.num [49] (by simp)) (by simp) rfl (by simp [treesD]))
 refine f_call rfl ((by have h := between_c taT tbT _ _ _ [.int .i64 (6), .string (bs ([])), .slice (some ⟨b94, 0, none⟩) (1) (1), .slice (some ⟨b93, 0, none⟩) (1) (1)] [.int .i64 (6), .string (bs ([])), .slice (some ⟨b90, 0, none⟩) (1) (1), .slice (some ⟨b77, 0, none⟩) (1) (1)] hx_.rep hy_.rep (hG.ext hF.same) (by decide) (by decide) (by decide) (by decide); rw [bet_4.1, bet_4.2] at h; exact h)) (x_call2 en_11 rfl rfl rfl) ?_
 rintro _ w ⟨rfl, hE⟩
 replace hF := hF.ext hE
 clear hE
 refine ⟨hF.sub (.cons _ (.cons _ (.cons _ (.cons _ (.cons_cons _ (.cons_cons _ .slnil)))))), ?_⟩
 refine f_free rfl (v := .tuple #[.int .i64 (1), .int .i64 (0)]) (fun w hC => x_move rfl) (f_free rfl (v := .int .i64 (1)) (fun w hC => x_extract rfl rfl) (f_free rfl (v := .int .i64 (0)) (fun w hC => x_extract rfl rfl) (f_free rfl (v := .int .i64 (1)) (fun w hC => x_assign rfl) (f_free rfl (v := .int .i64 (0)) (fun w hC => x_assign rfl) (d_nil ?_)))))
 exact e_inv ⟨⟨rfl, rfl, rfl, rfl, rfl, rfl, rfl, rfl, rfl, trivial⟩, ((((((hF.front 5 rfl).front 5 rfl).erase 2).erase 2).erase 2).erase 2)⟩
 clear hF; rintro σ w ⟨hs, hF⟩
 refine Eg.slots hs ?_
 clear hs; intro σ
 refine e_seq (c_seq (c_region ?_))
 refine o_new (v := fun b => .slice (some ⟨b, 0, none⟩) 1 1) hF (x_buildSlice (cs := #[.string (bs ([97]))]) Tryz.underlying22 Tryz.sizeOf9 Tryz.zeroValue9 (by decide) (by decide) (by kernel_rfl)) ?_
 clear hF; rintro b95 w hb95 hF -
 refine o_val (v := .agg #[.int .i64 (3), .string (bs ([49])), .slice (none) (0) (0), .slice (none) (0) (0)]) (x_loadS (l := [.int .i64 (3), .string (bs ([49])), .slice (none) (0) (0), .slice (none) (0) (0)]) Tryz.isAgg25 Tryz.sizeOf25 rfl rfl (hF.cellsAll 2 rfl)) ?_
 refine o_new (v := fun b => .slice (some ⟨b, 0, none⟩) 1 1) hF (x_buildSlice (cs := #[.int .i64 (3), .string (bs ([49])), .slice (none) (0) (0), .slice (none) (0) (0)]) Tryz.underlying23 Tryz.sizeOf25 Tryz.zeroValue25 (by decide) (by decide) (by kernel_rfl)) ?_
 clear hF; rintro b96 w hb96 hF -
 refine o_call (map_c (some ⟨b95, 0, none⟩) 1 1 (some ⟨b96, 0, none⟩) 1 1 _) (x_call2 en_23 rfl rfl rfl) ?_
 rintro _ w ⟨rfl, hE⟩
 replace hF := hF.ext hE
 clear hE
 refine o_call (row_c (none) 0 0 _) (x_call1 en_17 rfl rfl) ?_
 rintro _ w ⟨rfl, hE⟩
 replace hF := hF.ext hE
 clear hE
 have hx_ : RX w0 [] w [treeD taT] [.int .i64 (6), .string (bs ([])), .slice (some ⟨b95, 0, none⟩) (1) (1), .slice (some ⟨b96, 0, none⟩) (1) (1)] := RX.tree ⟨by omega, by omega⟩ (by simp) (hF.rowX (ids := []) 1 rfl (RX.strs (ks := [[97]]) (by simp)) (by simp) rfl (by omega)) (hF.rowX (ids := []) 0 rfl (RX.num [49] (by simp)) (by simp) rfl (by simp [treesD]))
 have hy_ : RX w0 [] w [treeD t0T] [.int .i64 (5), .string (bs ([])), .slice (none) (0) (0), .slice (none) (0) (0)] := RX.tree ⟨by omega, by omega⟩ (by simp) RX.nils RX.nils
 refine o_call ((by have h := between_c taT t0T _ _ _ [.int .i64 (6), .string (bs ([])), .slice (some ⟨b95, 0, none⟩) (1) (1), .slice (some ⟨b96, 0, none⟩) (1) (1)] [.int .i64 (5), .string (bs ([])), .slice (none) (0) (0), .slice (none) (0) (0)] hx_.rep hy_.rep (hG.ext hF.same) (by decide) (by decide) (by decide) (by decide); rw [bet_5.1, bet_5.2] at h; exact h)) (x_call2 en_11 rfl rfl rfl) ?_
 rintro _ w ⟨rfl, hE⟩
 replace hF := hF.ext hE
 clear hE
 refine o_val (x_move rfl) (o_val (x_extract rfl rfl) (o_val (x_extract rfl rfl) (o_val (x_assign rfl) (o_val (x_assign rfl) (o_nil (e_seq (c_seq (c_region (o_val (x_move rfl) (o_val (v := .bool true) (run_true (x_eql rfl rfl) (by decide)) (o_val (x_move rfl) (o_val (x_move rfl) (o_val (v := .bool true) (run_true (x_eql rfl rfl) (by decide)) ?_)))))))))))))
 refine o_val (x_pickt rfl rfl) (o_val (x_move rfl) (o_val (x_move rfl) (o_val (v := .bool true) (run_true (x_eql rfl rfl) (by decide)) (o_val (x_pickt rfl rfl) (o_val (x_move rfl) (o_val (x_move rfl) (o_val (v := .bool true) (run_true (x_eql rfl rfl) (by decide)) (o_val (x_pickt rfl rfl) (o_val (x_move rfl) (o_val (x_move rfl) (o_val (v := .bool true) (run_true (x_eql rfl rfl) (by decide)) (o_val (x_pickt rfl rfl) (o_val (x_move rfl) ?_)))))))))))))
 refine o_val (x_move rfl) (o_val (v := .bool true) (run_true (x_eql rfl rfl) (by decide)) (o_val (x_pickt rfl rfl) (o_val (x_move rfl) (o_val (x_move rfl) (o_val (v := .bool true) (run_true (x_eql rfl rfl) (by decide)) (o_val (x_pickt rfl rfl) (o_val (x_move rfl) (o_val (x_move rfl) (o_val (v := .bool true) (run_true (x_eql rfl rfl) (by decide)) (o_val (x_pickt rfl rfl) (o_val (x_move rfl) (o_val (x_move rfl) (o_val (v := .bool true) (run_true (x_eql rfl rfl) (by decide)) ?_)))))))))))))
 refine o_val (x_pickt rfl rfl) (o_val (x_move rfl) (o_val (x_move rfl) (o_val (v := .bool true) (run_true (x_eql rfl rfl) (by decide)) (o_val (x_pickt rfl rfl) (o_val (x_assign rfl) (o_nil (e_seq ?_)))))))
 refine c_ret (e_ret (post_ret (res_1 (v := .bool true) rfl rfl) ?_))
 exact ⟨rfl, hF.same⟩
end Go.Scarf
