/- A part of the proof. -/
import Derived.Test.YtehmojdjpmliaaaGreatDoorP3
import Derived.Test.YtehmojdjpmliaaaGreatDoorW20
set_option linter.all false
namespace Go.Scarf
open Go.RowKit Go.Proofs
abbrev nullT : Tree := .node 1 [] [] []
abbrev sxT : Tree := .node 4 [120] [] []
abbrev rwT : Tree := .node 5 [] [] [n1T, nullT]
abbrev wT : Tree := .node 6 [] [[98], [97]] [rwT, sxT]
abbrev wsT : Tree := .node 6 [] [[97], [98]] [sxT, rwT]
abbrev prT : Tree := .node 5 [] [] [n1T, .node 5 [] [] []]
abbrev hlT : Tree := .node 7 [48] [] []
theorem sorted_wT : sortedV wT = wsT := by
  have ho : openB wT = true := by kernel_rfl
  rw [sortedV, if_pos ho, sortT, if_pos rfl, sortS_ba]
  simp [sortTs, lookT, sortT]
theorem comp_wT : compS wT = [123, 34, 98, 34, 58, 91, 49, 44, 110, 117, 108, 108, 93, 44, 34, 97, 34, 58, 34, 120, 34, 125] := by kernel_rfl
theorem comp_wT_e : compE wT = 0 := by kernel_rfl
theorem comp_wsT : compS (sortedV wT) = [123, 34, 97, 34, 58, 34, 120, 34, 44, 34, 98, 34, 58, 91, 49, 44, 110, 117, 108, 108, 93, 125] := by rw [sorted_wT]; kernel_rfl
theorem comp_wsT_e : compE (sortedV wT) = 0 := by rw [sorted_wT]; kernel_rfl
theorem pret_prT : pretS prT 2 0 = [91, 10, 32, 32, 49, 44, 10, 32, 32, 91, 93, 10, 93] := by kernel_rfl
theorem pret_prT_e : pretE prT 2 0 = 0 := by kernel_rfl
theorem rep_leaf (k : Int) (t : Str) (hk : -9223372036854775808 ≤ k ∧ k ≤ 9223372036854775807) (ht : t.length ≤ 9223372036854775807) (w : World) : Rep (fun _ => True) w (treeD (.node k t [] [])) [.int .i64 k, .string (bs t), .slice none 0 0, .slice none 0 0] := Rep.tree_mk (ks := []) (xs := []) hk ht (Rep.nil_slice 0 (by omega) none) (Rep.nil_slice 0 (by omega) none)
theorem comp_hlT_e : compE hlT = 1 := by kernel_rfl
set_option maxHeartbeats 4000000 in
set_option maxRecDepth 10000 in
theorem small8_c (w0 : World) (hG : Gl w0) : Calls Tryz.prog 13 #[] w0 (Ret fun v w' => v = .bool true ∧ Same [] w0 w') := by
 refine calls_start Tryz.func13 rfl Tryz.ntmps13 (Nat.le_of_ble_eq_true rfl) (args_0) ?_
 have hF := FR.start w0 []
 refine c_seq (c_region (o_val (x_assign rfl) (o_nil (e_seq (c_seq (c_region ?_))))))
 refine o_val (w' := w0) (v := .agg #[.int .i64 (1), .string (bs ([])), .slice (none) (0) (0), .slice (none) (0) (0)]) (by kernel_rfl) ?_
 refine o_lay (l := [.int .i64 (1), .string (bs ([])), .slice (none) (0) (0), .slice (none) (0) (0)]) hF Tryz.zeroValue25 Tryz.sizeOf25 rfl (v := .agg #[.int .i64 (1), .string (bs ([])), .slice (none) (0) (0), .slice (none) (0) (0)]) rfl rfl (by simp [one]) rfl ?_
 clear hF; rintro b1 w hb1 hF -
 refine o_nil (e_seq (c_seq ?_))
 refine c_join (fun σ w => ∃ (bz : Nat), ∃ (cz : List Value), (cz.length = 4) ∧ (∀ v ∈ cz, one v = true) ∧ (RX w0 [] w [treeD wT] cz) ∧ AllEq σ [(2, .pointer (some ⟨bz, 0, none⟩))] ∧ FR w0 [] [(bz, .cells (List.toArray cz) 25), (b1, .cells #[.int .i64 (1), .string (bs ([])), .slice (none) (0) (0), .slice (none) (0) (0)] 25)] w) ?_ ?_
 refine c_drawF [9] (.free 2 (.alt 0 (.alt 1 (.alt 3 (.alt 4 (.alt 5 (.alt 6 (.alt 7 (.act 8 (.act 9 .nil)) (.act 8 (.act 7 (.act 9 .nil)))) (.act 8 (.act 6 (.act 7 (.act 9 .nil))))) (.act 8 (.act 5 (.act 6 (.act 7 (.act 9 .nil)))))) (.act 8 (.act 4 (.act 5 (.act 6 (.act 7 (.act 9 .nil))))))) (.act 8 (.act 3 (.act 4 (.act 5 (.act 6 (.act 7 (.act 9 .nil)))))))) (.act 8 (.act 1 (.act 3 (.act 4 (.act 5 (.act 6 (.act 7 (.act 9 .nil))))))))) (.alt 1 (.alt 0 (.alt 3 (.alt 4 (.alt 5 (.alt 6 (.alt 7 (.act 8 (.act 9 .nil)) (.act 8 (.act 7 (.act 9 .nil)))) (.act 8 (.act 6 (.act 7 (.act 9 .nil))))) (.act 8 (.act 5 (.act 6 (.act 7 (.act 9 .nil)))))) (.act 8 (.act 4 (.act 5 (.act 6 (.act 7 (.act 9 .nil))))))) (.act 8 (.act 3 (.act 4 (.act 5 (.act 6 (.act 7 (.act 9 .nil)))))))) (.alt 3 (.alt 0 (.alt 4 (.alt 5 (.alt 6 (.alt 7 (.act 8 (.act 9 .nil)) (.act 8 (.act 7 (.act 9 .nil)))) (.act 8 (.act 6 (.act 7 (.act 9 .nil))))) (.act 8 (.act 5 (.act 6 (.act 7 (.act 9 .nil)))))) (.act 8 (.act 4 (.act 5 (.act 6 (.act 7 (.act 9 .nil))))))) (.alt 4 (.alt 0 (.alt 5 (.alt 6 (.alt 7 (.act 8 (.act 9 .nil)) (.act 8 (.act 7 (.act 9 .nil)))) (.act 8 (.act 6 (.act 7 (.act 9 .nil))))) (.act 8 (.act 5 (.act 6 (.act 7 (.act 9 .nil)))))) (.alt 5 (.alt 0 (.alt 6 (.alt 7 (.act 8 (.act 9 .nil)) (.act 8 (.act 7 (.act 9 .nil)))) (.act 8 (.act 6 (.act 7 (.act 9 .nil))))) (.alt 6 (.alt 0 (.alt 7 (.act 8 (.act 9 .nil)) (.act 8 (.act 7 (.act 9 .nil)))) (.act 8 (.act 0 (.act 7 (.act 9 .nil))))) (.act 8 (.alt 0 (.act 6 (.act 7 (.act 9 .nil))) (.act 6 (.act 0 (.act 7 (.act 9 .nil)))))))) (.act 8 (.alt 0 (.act 5 (.act 6 (.act 7 (.act 9 .nil)))) (.act 5 (.alt 0 (.act 6 (.act 7 (.act 9 .nil))) (.act 6 (.act 0 (.act 7 (.act 9 .nil)))))))))) (.act 8 (.alt 0 (.act 4 (.act 5 (.act 6 (.act 7 (.act 9 .nil))))) (.act 4 (.alt 0 (.act 5 (.act 6 (.act 7 (.act 9 .nil)))) (.act 5 (.alt 0 (.act 6 (.act 7 (.act 9 .nil))) (.act 6 (.act 0 (.act 7 (.act 9 .nil)))))))))))) (.act 8 (.alt 0 (.act 3 (.act 4 (.act 5 (.act 6 (.act 7 (.act 9 .nil)))))) (.act 3 (.alt 0 (.act 4 (.act 5 (.act 6 (.act 7 (.act 9 .nil))))) (.act 4 (.alt 0 (.act 5 (.act 6 (.act 7 (.act 9 .nil)))) (.act 5 (.alt 0 (.act 6 (.act 7 (.act 9 .nil))) (.act 6 (.act 0 (.act 7 (.act 9 .nil)))))))))))))) (.act 8 (.alt 0 (.act 1 (.act 3 (.act 4 (.act 5 (.act 6 (.act 7 (.act 9 .nil))))))) (.act 1 (.alt 0 (.act 3 (.act 4 (.act 5 (.act 6 (.act 7 (.act 9 .nil)))))) (.act 3 (.alt 0 (.act 4 (.act 5 (.act 6 (.act 7 (.act 9 .nil))))) (.act 4 (.alt 0 (.act 5 (.act 6 (.act 7 (.act 9 .nil)))) (.act 5 (.alt 0 (.act 6 (.act 7 (.act 9 .nil))) (.act 6 (.act 0 (.act 7 (.act 9 .nil))))))))))))))))) (by kernel_rfl) hF (by kernel_rfl) (by kernel_rfl) ?_
 clear hF; rintro w hF -
 refine ⟨fun wq => FR w0 [] [(b1, .cells #[.int .i64 (1), .string (bs ([])), .slice (none) (0) (0), .slice (none) (0) (0)] 25)] wq, hF, ?_⟩
 refine f_free rfl (v := .agg #[.int .i64 (1), .string (bs ([])), .slice (none) (0) (0), .slice (none) (0) (0)]) (fun w hC => x_loadS (l := [.int .i64 (1), .string (bs ([])), .slice (none) (0) (0), .slice (none) (0) (0)]) Tryz.isAgg25 Tryz.sizeOf25 rfl rfl (hC.cellsAll 0 rfl)) ?_
 refine d_alt ?_ ?_
 refine f_new rfl (v := fun b => .slice (some ⟨b, 0, none⟩) 2 2) hF (x_buildSlice (cs := #[.string (bs ([98])), .string (bs ([97]))]) Tryz.underlying22 Tryz.sizeOf9 Tryz.zeroValue9 (by decide) (by decide) (by kernel_rfl)) ?_
 clear hF; rintro b2 w hb2 hF -
 refine ⟨hF.sub (.cons _ (.cons_cons _ .slnil)), ?_⟩
 refine d_alt ?_ ?_
 refine f_call rfl (ret_eq (v' := .agg #[.int .i64 (3), .string (bs ([49])), .slice (none) (0) (0), .slice (none) (0) (0)]) (num_c 1 (by omega) (by omega) _ (hG.ext hF.same)) (by kernel_rfl)) (x_call1 en_39 rfl rfl) ?_
 rintro _ w ⟨rfl, hE⟩
 replace hF := hF.ext hE
 clear hE
 refine ⟨hF.sub (.cons _ (.cons_cons _ .slnil)), ?_⟩
 refine d_alt ?_ ?_
 refine f_new rfl (v := fun b => .slice (some ⟨b, 0, none⟩) 2 2) hF (x_buildSlice (cs := #[.int .i64 (3), .string (bs ([49])), .slice (none) (0) (0), .slice (none) (0) (0), .int .i64 (1), .string (bs ([])), .slice (none) (0) (0), .slice (none) (0) (0)]) Tryz.underlying23 Tryz.sizeOf25 Tryz.zeroValue25 (by decide) (by decide) (by kernel_rfl)) ?_
 clear hF; rintro b3 w hb3 hF -
 refine ⟨hF.sub (.cons _ (.cons _ (.cons_cons _ .slnil))), ?_⟩
 refine d_alt ?_ ?_
 refine f_call rfl (row_c (some ⟨b3, 0, none⟩) 2 2 _) (x_call1 en_43 rfl rfl) ?_
 rintro _ w ⟨rfl, hE⟩
 replace hF := hF.ext hE
 clear hE
 refine ⟨hF.sub (.cons _ (.cons _ (.cons_cons _ .slnil))), ?_⟩
 refine d_alt ?_ ?_
 refine f_call rfl (of_c [120] _) (x_call1 en_25 rfl rfl) ?_
 rintro _ w ⟨rfl, hE⟩
 replace hF := hF.ext hE
 clear hE
 refine ⟨hF.sub (.cons _ (.cons _ (.cons_cons _ .slnil))), ?_⟩
 refine d_alt ?_ ?_
 refine f_new rfl (v := fun b => .slice (some ⟨b, 0, none⟩) 2 2) hF (x_buildSlice (cs := #[.int .i64 (5), .string (bs ([])), .slice (none) (0) (0), .slice (some ⟨b3, 0, none⟩) (2) (2), .int .i64 (4), .string (bs ([120])), .slice (none) (0) (0), .slice (none) (0) (0)]) Tryz.underlying23 Tryz.sizeOf25 Tryz.zeroValue25 (by decide) (by decide) (by kernel_rfl)) ?_
 clear hF; rintro b4 w hb4 hF -
 refine ⟨hF.sub (.cons _ (.cons _ (.cons _ (.cons_cons _ .slnil)))), ?_⟩
 refine d_alt ?_ ?_
 refine f_call rfl (map_c (some ⟨b2, 0, none⟩) 2 2 (some ⟨b4, 0, none⟩) 2 2 _) (x_call2 en_49 rfl rfl rfl) ?_
 rintro _ w ⟨rfl, hE⟩
 replace hF := hF.ext hE
 clear hE
 refine ⟨hF.sub (.cons _ (.cons _ (.cons _ (.cons_cons _ .slnil)))), ?_⟩
 refine f_new rfl (v := fun b => .pointer (some ⟨b, 0, none⟩)) (o := .cells #[.int .i64 (0), .string (bs ([])), .slice (none) (0) (0), .slice (none) (0) (0)] 25) hF (x_alloc Tryz.zeroValue25) ?_
 clear hF; rintro b5 w hb5 hF -
 refine ⟨hF.sub (.cons _ (.cons _ (.cons _ (.cons _ (.cons_cons _ .slnil))))), ?_⟩
 refine f_storez rfl 0 (l := [.int .i64 (6), .string (bs ([])), .slice (some ⟨b2, 0, none⟩) (2) (2), .slice (some ⟨b4, 0, none⟩) (2) (2)]) (cs' := #[.int .i64 (6), .string (bs ([])), .slice (some ⟨b2, 0, none⟩) (2) (2), .slice (some ⟨b4, 0, none⟩) (2) (2)]) hF Tryz.sizeOf25 rfl (v := .agg #[.int .i64 (6), .string (bs ([])), .slice (some ⟨b2, 0, none⟩) (2) (2), .slice (some ⟨b4, 0, none⟩) (2) (2)]) rfl rfl (by simp [one]) rfl (Nat.le_of_ble_eq_true rfl) rfl ?_
 clear hF; rintro w hF -
 replace hF : FR w0 [] [(b5, .cells #[.int .i64 (6), .string (bs ([])), .slice (some ⟨b2, 0, none⟩) (2) (2), .slice (some ⟨b4, 0, none⟩) (2) (2)] 25), (b4, .cells #[.int .i64 (5), .string (bs ([])), .slice (none) (0) (0), .slice (some ⟨b3, 0, none⟩) (2) (2), .int .i64 (4), .string (bs ([120])), .slice (none) (0) (0), .slice (none) (0) (0)] 25), (b3, .cells #[.int .i64 (3), .string (bs ([49])), .slice (none) (0) (0), .slice (none) (0) (0), .int .i64 (1), .string (bs ([])), .slice (none) (0) (0), .slice (none) (0) (0)] 25), (b2, .cells #[.string (bs ([98])), .string (bs ([97]))] 9), (b1, .cells #[.int .i64 (1), .string (bs ([])), .slice (none) (0) (0), .slice (none) (0) (0)] 25)] w := hF
 refine d_nil ?_
 have hR : RX w0 [] w [treeD rwT] [.int .i64 (5), .string (bs ([])), .slice (none) (0) (0), .slice (some ⟨b3, 0, none⟩) (2) (2)] := RX.tree ⟨by omega, by omega⟩ (by simp) RX.nils (hF.rowX 2 rfl (RX.append (ds := [_]) (RX.num _ (by simp)) (RX.tree ⟨by omega, by omega⟩ (by simp) RX.nils RX.nils)) (by simp) rfl (by omega))
 have hZ : RX w0 [] w [treeD wT] [.int .i64 (6), .string (bs ([])), .slice (some ⟨b2, 0, none⟩) (2) (2), .slice (some ⟨b4, 0, none⟩) (2) (2)] := RX.tree ⟨by omega, by omega⟩ (by simp) (hF.rowX 3 rfl (RX.strs (ks := [[98], [97]]) (by simp)) (by simp) rfl (by omega)) (hF.rowX 1 rfl (RX.append (ds := [_]) hR (RX.str _ (by simp))) (by simp) rfl (by omega))
 exact e_inv ⟨(b5), ([.int .i64 (6), .string (bs ([])), .slice (some ⟨b2, 0, none⟩) (2) (2), .slice (some ⟨b4, 0, none⟩) (2) (2)]), (rfl), (by simp [one]), (hZ), ⟨rfl, trivial⟩, (((((hF.front 4 rfl).front 1 rfl).erase 2).erase 2).erase 2)⟩
 refine f_new rfl (v := fun b => .pointer (some ⟨b, 0, none⟩)) (o := .cells #[.int .i64 (0), .string (bs ([])), .slice (none) (0) (0), .slice (none) (0) (0)] 25) hF (x_alloc Tryz.zeroValue25) ?_
 clear hF; rintro b6 w hb6 hF -
 refine ⟨hF.sub (.cons _ (.cons _ (.cons _ (.cons _ (.cons_cons _ .slnil))))), ?_⟩
 refine f_call rfl (map_c (some ⟨b2, 0, none⟩) 2 2 (some ⟨b4, 0, none⟩) 2 2 _) (x_call2 en_49 rfl rfl rfl) ?_
 rintro _ w ⟨rfl, hE⟩
 replace hF := hF.ext hE
 clear hE
 refine ⟨hF.sub (.cons _ (.cons _ (.cons _ (.cons _ (.cons_cons _ .slnil))))), ?_⟩
 refine f_storez rfl 0 (l := [.int .i64 (6), .string (bs ([])), .slice (some ⟨b2, 0, none⟩) (2) (2), .slice (some ⟨b4, 0, none⟩) (2) (2)]) (cs' := #[.int .i64 (6), .string (bs ([])), .slice (some ⟨b2, 0, none⟩) (2) (2), .slice (some ⟨b4, 0, none⟩) (2) (2)]) hF Tryz.sizeOf25 rfl (v := .agg #[.int .i64 (6), .string (bs ([])), .slice (some ⟨b2, 0, none⟩) (2) (2), .slice (some ⟨b4, 0, none⟩) (2) (2)]) rfl rfl (by simp [one]) rfl (Nat.le_of_ble_eq_true rfl) rfl ?_
 clear hF; rintro w hF -
 replace hF : FR w0 [] [(b6, .cells #[.int .i64 (6), .string (bs ([])), .slice (some ⟨b2, 0, none⟩) (2) (2), .slice (some ⟨b4, 0, none⟩) (2) (2)] 25), (b4, .cells #[.int .i64 (5), .string (bs ([])), .slice (none) (0) (0), .slice (some ⟨b3, 0, none⟩) (2) (2), .int .i64 (4), .string (bs ([120])), .slice (none) (0) (0), .slice (none) (0) (0)] 25), (b3, .cells #[.int .i64 (3), .string (bs ([49])), .slice (none) (0) (0), .slice (none) (0) (0), .int .i64 (1), .string (bs ([])), .slice (none) (0) (0), .slice (none) (0) (0)] 25), (b2, .cells #[.string (bs ([98])), .string (bs ([97]))] 9), (b1, .cells #[.int .i64 (1), .string (bs ([])), .slice (none) (0) (0), .slice (none) (0) (0)] 25)] w := hF
 refine d_nil ?_
 have hR : RX w0 [] w [treeD rwT] [.int .i64 (5), .string (bs ([])), .slice (none) (0) (0), .slice (some ⟨b3, 0, none⟩) (2) (2)] := RX.tree ⟨by omega, by omega⟩ (by simp) RX.nils (hF.rowX 2 rfl (RX.append (ds := [_]) (RX.num _ (by simp)) (RX.tree ⟨by omega, by omega⟩ (by simp) RX.nils RX.nils)) (by simp) rfl (by omega))
 have hZ : RX w0 [] w [treeD wT] [.int .i64 (6), .string (bs ([])), .slice (some ⟨b2, 0, none⟩) (2) (2), .slice (some ⟨b4, 0, none⟩) (2) (2)] := RX.tree ⟨by omega, by omega⟩ (by simp) (hF.rowX 3 rfl (RX.strs (ks := [[98], [97]]) (by simp)) (by simp) rfl (by omega)) (hF.rowX 1 rfl (RX.append (ds := [_]) hR (RX.str _ (by simp))) (by simp) rfl (by omega))
 exact e_inv ⟨(b6), ([.int .i64 (6), .string (bs ([])), .slice (some ⟨b2, 0, none⟩) (2) (2), .slice (some ⟨b4, 0, none⟩) (2) (2)]), (rfl), (by simp [one]), (hZ), ⟨rfl, trivial⟩, (((((hF.front 4 rfl).front 1 rfl).erase 2).erase 2).erase 2)⟩
 refine f_new rfl (v := fun b => .pointer (some ⟨b, 0, none⟩)) (o := .cells #[.int .i64 (0), .string (bs ([])), .slice (none) (0) (0), .slice (none) (0) (0)] 25) hF (x_alloc Tryz.zeroValue25) ?_
 clear hF; rintro b7 w hb7 hF -
 refine ⟨hF.sub (.cons _ (.cons _ (.cons _ (.cons_cons _ .slnil)))), ?_⟩
 refine f_new rfl (v := fun b => .slice (some ⟨b, 0, none⟩) 2 2) hF (x_buildSlice (cs := #[.int .i64 (5), .string (bs ([])), .slice (none) (0) (0), .slice (some ⟨b3, 0, none⟩) (2) (2), .int .i64 (4), .string (bs ([120])), .slice (none) (0) (0), .slice (none) (0) (0)]) Tryz.underlying23 Tryz.sizeOf25 Tryz.zeroValue25 (by decide) (by decide) (by kernel_rfl)) ?_
 clear hF; rintro b8 w hb8 hF -
 refine ⟨hF.sub (.cons _ (.cons _ (.cons _ (.cons _ (.cons_cons _ .slnil))))), ?_⟩
 refine f_call rfl (map_c (some ⟨b2, 0, none⟩) 2 2 (some ⟨b8, 0, none⟩) 2 2 _) (x_call2 en_49 rfl rfl rfl) ?_
 rintro _ w ⟨rfl, hE⟩
 replace hF := hF.ext hE
 clear hE
 refine ⟨hF.sub (.cons _ (.cons _ (.cons _ (.cons _ (.cons_cons _ .slnil))))), ?_⟩
 refine f_storez rfl 1 (l := [.int .i64 (6), .string (bs ([])), .slice (some ⟨b2, 0, none⟩) (2) (2), .slice (some ⟨b8, 0, none⟩) (2) (2)]) (cs' := #[.int .i64 (6), .string (bs ([])), .slice (some ⟨b2, 0, none⟩) (2) (2), .slice (some ⟨b8, 0, none⟩) (2) (2)]) hF Tryz.sizeOf25 rfl (v := .agg #[.int .i64 (6), .string (bs ([])), .slice (some ⟨b2, 0, none⟩) (2) (2), .slice (some ⟨b8, 0, none⟩) (2) (2)]) rfl rfl (by simp [one]) rfl (Nat.le_of_ble_eq_true rfl) rfl ?_
 clear hF; rintro w hF -
 replace hF : FR w0 [] [(b8, .cells #[.int .i64 (5), .string (bs ([])), .slice (none) (0) (0), .slice (some ⟨b3, 0, none⟩) (2) (2), .int .i64 (4), .string (bs ([120])), .slice (none) (0) (0), .slice (none) (0) (0)] 25), (b7, .cells #[.int .i64 (6), .string (bs ([])), .slice (some ⟨b2, 0, none⟩) (2) (2), .slice (some ⟨b8, 0, none⟩) (2) (2)] 25), (b3, .cells #[.int .i64 (3), .string (bs ([49])), .slice (none) (0) (0), .slice (none) (0) (0), .int .i64 (1), .string (bs ([])), .slice (none) (0) (0), .slice (none) (0) (0)] 25), (b2, .cells #[.string (bs ([98])), .string (bs ([97]))] 9), (b1, .cells #[.int .i64 (1), .string (bs ([])), .slice (none) (0) (0), .slice (none) (0) (0)] 25)] w := hF
 refine d_nil ?_
 have hR : RX w0 [] w [treeD rwT] [.int .i64 (5), .string (bs ([])), .slice (none) (0) (0), .slice (some ⟨b3, 0, none⟩) (2) (2)] := RX.tree ⟨by omega, by omega⟩ (by simp) RX.nils (hF.rowX 2 rfl (RX.append (ds := [_]) (RX.num _ (by simp)) (RX.tree ⟨by omega, by omega⟩ (by simp) RX.nils RX.nils)) (by simp) rfl (by omega))
 have hZ : RX w0 [] w [treeD wT] [.int .i64 (6), .string (bs ([])), .slice (some ⟨b2, 0, none⟩) (2) (2), .slice (some ⟨b8, 0, none⟩) (2) (2)] := RX.tree ⟨by omega, by omega⟩ (by simp) (hF.rowX 3 rfl (RX.strs (ks := [[98], [97]]) (by simp)) (by simp) rfl (by omega)) (hF.rowX 0 rfl (RX.append (ds := [_]) hR (RX.str _ (by simp))) (by simp) rfl (by omega))
 exact e_inv ⟨(b7), ([.int .i64 (6), .string (bs ([])), .slice (some ⟨b2, 0, none⟩) (2) (2), .slice (some ⟨b8, 0, none⟩) (2) (2)]), (rfl), (by simp [one]), (hZ), ⟨rfl, trivial⟩, (((((hF.front 4 rfl).front 2 rfl).erase 2).erase 2).erase 2)⟩
 refine f_new rfl (v := fun b => .pointer (some ⟨b, 0, none⟩)) (o := .cells #[.int .i64 (0), .string (bs ([])), .slice (none) (0) (0), .slice (none) (0) (0)] 25) hF (x_alloc Tryz.zeroValue25) ?_
 clear hF; rintro b9 w hb9 hF -
 refine ⟨hF.sub (.cons _ (.cons _ (.cons _ (.cons_cons _ .slnil)))), ?_⟩
 refine f_call rfl (of_c [120] _) (x_call1 en_25 rfl rfl) ?_
 rintro _ w ⟨rfl, hE⟩
 replace hF := hF.ext hE
 clear hE
 refine ⟨hF.sub (.cons _ (.cons _ (.cons _ (.cons_cons _ .slnil)))), ?_⟩
 refine f_new rfl (v := fun b => .slice (some ⟨b, 0, none⟩) 2 2) hF (x_buildSlice (cs := #[.int .i64 (5), .string (bs ([])), .slice (none) (0) (0), .slice (some ⟨b3, 0, none⟩) (2) (2), .int .i64 (4), .string (bs ([120])), .slice (none) (0) (0), .slice (none) (0) (0)]) Tryz.underlying23 Tryz.sizeOf25 Tryz.zeroValue25 (by decide) (by decide) (by kernel_rfl)) ?_
 clear hF; rintro b10 w hb10 hF -
 refine ⟨hF.sub (.cons _ (.cons _ (.cons _ (.cons _ (.cons_cons _ .slnil))))), ?_⟩
 refine f_call rfl (map_c (some ⟨b2, 0, none⟩) 2 2 (some ⟨b10, 0, none⟩) 2 2 _) (x_call2 en_49 rfl rfl rfl) ?_
 rintro _ w ⟨rfl, hE⟩
 replace hF := hF.ext hE
 clear hE
 refine ⟨hF.sub (.cons _ (.cons _ (.cons _ (.cons _ (.cons_cons _ .slnil))))), ?_⟩
 refine f_storez rfl 1 (l := [.int .i64 (6), .string (bs ([])), .slice (some ⟨b2, 0, none⟩) (2) (2), .slice (some ⟨b10, 0, none⟩) (2) (2)]) (cs' := #[.int .i64 (6), .string (bs ([])), .slice (some ⟨b2, 0, none⟩) (2) (2), .slice (some ⟨b10, 0, none⟩) (2) (2)]) hF Tryz.sizeOf25 rfl (v := .agg #[.int .i64 (6), .string (bs ([])), .slice (some ⟨b2, 0, none⟩) (2) (2), .slice (some ⟨b10, 0, none⟩) (2) (2)]) rfl rfl (by simp [one]) rfl (Nat.le_of_ble_eq_true rfl) rfl ?_
 clear hF; rintro w hF -
 replace hF : FR w0 [] [(b10, .cells #[.int .i64 (5), .string (bs ([])), .slice (none) (0) (0), .slice (some ⟨b3, 0, none⟩) (2) (2), .int .i64 (4), .string (bs ([120])), .slice (none) (0) (0), .slice (none) (0) (0)] 25), (b9, .cells #[.int .i64 (6), .string (bs ([])), .slice (some ⟨b2, 0, none⟩) (2) (2), .slice (some ⟨b10, 0, none⟩) (2) (2)] 25), (b3, .cells #[.int .i64 (3), .string (bs ([49])), .slice (none) (0) (0), .slice (none) (0) (0), .int .i64 (1), .string (bs ([])), .slice (none) (0) (0), .slice (none) (0) (0)] 25), (b2, .cells #[.string (bs ([98])), .string (bs ([97]))] 9), (b1, .cells #[.int .i64 (1), .string (bs ([])), .slice (none) (0) (0), .slice (none) (0) (0)] 25)] w := hF
 refine d_nil ?_
 have hR : RX w0 [] w [treeD rwT] [.int .i64 (5), .string (bs ([])), .slice (none) (0) (0), .slice (some ⟨b3, 0, none⟩) (2) (2)] := RX.tree ⟨by omega, by omega⟩ (by simp) RX.nils (hF.rowX 2 rfl (RX.append (ds := [_]) (RX.num _ (by simp)) (RX.tree ⟨by omega, by omega⟩ (by simp) RX.nils RX.nils)) (by simp) rfl (by omega))
 have hZ : RX w0 [] w [treeD wT] [.int .i64 (6), .string (bs ([])), .slice (some ⟨b2, 0, none⟩) (2) (2), .slice (some ⟨b10, 0, none⟩) (2) (2)] := RX.tree ⟨by omega, by omega⟩ (by simp) (hF.rowX 3 rfl (RX.strs (ks := [[98], [97]]) (by simp)) (by simp) rfl (by omega)) (hF.rowX 0 rfl (RX.append (ds := [_]) hR (RX.str _ (by simp))) (by simp) rfl (by omega))
 exact e_inv ⟨(b9), ([.int .i64 (6), .string (bs ([])), .slice (some ⟨b2, 0, none⟩) (2) (2), .slice (some ⟨b10, 0, none⟩) (2) (2)]), (rfl), (by simp [one]), (hZ), ⟨rfl, trivial⟩, (((((hF.front 4 rfl).front 2 rfl).erase 2).erase 2).erase 2)⟩
 refine f_new rfl (v := fun b => .pointer (some ⟨b, 0, none⟩)) (o := .cells #[.int .i64 (0), .string (bs ([])), .slice (none) (0) (0), .slice (none) (0) (0)] 25) hF (x_alloc Tryz.zeroValue25) ?_
 clear hF; rintro b11 w hb11 hF -
 refine ⟨hF.sub (.cons _ (.cons _ (.cons _ (.cons_cons _ .slnil)))), ?_⟩
 refine f_call rfl (row_c (some ⟨b3, 0, none⟩) 2 2 _) (x_call1 en_43 rfl rfl) ?_
 rintro _ w ⟨rfl, hE⟩
 replace hF := hF.ext hE
 clear hE
 refine ⟨hF.sub (.cons _ (.cons _ (.cons _ (.cons_cons _ .slnil)))), ?_⟩
 refine f_call rfl (of_c [120] _) (x_call1 en_25 rfl rfl) ?_
 rintro _ w ⟨rfl, hE⟩
 replace hF := hF.ext hE
 clear hE
 refine ⟨hF.sub (.cons _ (.cons _ (.cons _ (.cons_cons _ .slnil)))), ?_⟩
 refine f_new rfl (v := fun b => .slice (some ⟨b, 0, none⟩) 2 2) hF (x_buildSlice (cs := #[.int .i64 (5), .string (bs ([])), .slice (none) (0) (0), .slice (some ⟨b3, 0, none⟩) (2) (2), .int .i64 (4), .string (bs ([120])), .slice (none) (0) (0), .slice (none) (0) (0)]) Tryz.underlying23 Tryz.sizeOf25 Tryz.zeroValue25 (by decide) (by decide) (by kernel_rfl)) ?_
 clear hF; rintro b12 w hb12 hF -
 refine ⟨hF.sub (.cons _ (.cons _ (.cons _ (.cons _ (.cons_cons _ .slnil))))), ?_⟩
 refine f_call rfl (map_c (some ⟨b2, 0, none⟩) 2 2 (some ⟨b12, 0, none⟩) 2 2 _) (x_call2 en_49 rfl rfl rfl) ?_
 rintro _ w ⟨rfl, hE⟩
 replace hF := hF.ext hE
 clear hE
 refine ⟨hF.sub (.cons _ (.cons _ (.cons _ (.cons _ (.cons_cons _ .slnil))))), ?_⟩
 refine f_storez rfl 1 (l := [.int .i64 (6), .string (bs ([])), .slice (some ⟨b2, 0, none⟩) (2) (2), .slice (some ⟨b12, 0, none⟩) (2) (2)]) (cs' := #[.int .i64 (6), .string (bs ([])), .slice (some ⟨b2, 0, none⟩) (2) (2), .slice (some ⟨b12, 0, none⟩) (2) (2)]) hF Tryz.sizeOf25 rfl (v := .agg #[.int .i64 (6), .string (bs ([])), .slice (some ⟨b2, 0, none⟩) (2) (2), .slice (some ⟨b12, 0, none⟩) (2) (2)]) rfl rfl (by simp [one]) rfl (Nat.le_of_ble_eq_true rfl) rfl ?_
 clear hF; rintro w hF -
 replace hF : FR w0 [] [(b12, .cells #[.int .i64 (5), .string (bs ([])), .slice (none) (0) (0), .slice (some ⟨b3, 0, none⟩) (2) (2), .int .i64 (4), .string (bs ([120])), .slice (none) (0) (0), .slice (none) (0) (0)] 25), (b11, .cells #[.int .i64 (6), .string (bs ([])), .slice (some ⟨b2, 0, none⟩) (2) (2), .slice (some ⟨b12, 0, none⟩) (2) (2)] 25), (b3, .cells #[.int .i64 (3), .string (bs ([49])), .slice (none) (0) (0), .slice (none) (0) (0), .int .i64 (1), .string (bs ([])), .slice (none) (0) (0), .slice (none) (0) (0)] 25), (b2, .cells #[.string (bs ([98])), .string (bs ([97]))] 9), (b1, .cells #[.int .i64 (1), .string (bs ([])), .slice (none) (0) (0), .slice (none) (0) (0)] 25)] w := hF
 refine d_nil ?_
 have hR : RX w0 [] w [treeD rwT] [.int .i64 (5), .string (bs ([])), .slice (none) (0) (0), .slice (some ⟨b3, 0, none⟩) (2) (2)] := RX.tree ⟨by omega, by omega⟩ (by simp) RX.nils (hF.rowX 2 rfl (RX.append (ds := [_]) (RX.num _ (by simp)) (RX.tree ⟨by omega, by omega⟩ (by simp) RX.nils RX.nils)) (by simp) rfl (by omega))
 have hZ : RX w0 [] w [treeD wT] [.int .i64 (6), .string (bs ([])), .slice (some ⟨b2, 0, none⟩) (2) (2), .slice (some ⟨b12, 0, none⟩) (2) (2)] := RX.tree ⟨by omega, by omega⟩ (by simp) (hF.rowX 3 rfl (RX.strs (ks := [[98], [97]]) (by simp)) (by simp) rfl (by omega)) (hF.rowX 0 rfl (RX.append (ds := [_]) hR (RX.str _ (by simp))) (by simp) rfl (by omega))
 exact e_inv ⟨(b11), ([.int .i64 (6), .string (bs ([])), .slice (some ⟨b2, 0, none⟩) (2) (2), .slice (some ⟨b12, 0, none⟩) (2) (2)]), (rfl), (by simp [one]), (hZ), ⟨rfl, trivial⟩, (((((hF.front 4 rfl).front 2 rfl).erase 2).erase 2).erase 2)⟩
 refine f_new rfl (v := fun b => .pointer (some ⟨b, 0, none⟩)) (o := .cells #[.int .i64 (0), .string (bs ([])), .slice (none) (0) (0), .slice (none) (0) (0)] 25) hF (x_alloc Tryz.zeroValue25) ?_
 clear hF; rintro b13 w hb13 hF -
 refine ⟨hF.sub (.cons _ (.cons _ (.cons_cons _ .slnil))), ?_⟩
 refine f_new rfl (v := fun b => .slice (some ⟨b, 0, none⟩) 2 2) hF (x_buildSlice (cs := #[.int .i64 (3), .string (bs ([49])), .slice (none) (0) (0), .slice (none) (0) (0), .int .i64 (1), .string (bs ([])), .slice (none) (0) (0), .slice (none) (0) (0)]) Tryz.underlying23 Tryz.sizeOf25 Tryz.zeroValue25 (by decide) (by decide) (by kernel_rfl)) ?_
 clear hF; rintro b14 w hb14 hF -
 refine ⟨hF.sub (.cons _ (.cons _ (.cons _ (.cons_cons _ .slnil)))), ?_⟩
 refine f_call rfl (row_c (some ⟨b14, 0, none⟩) 2 2 _) (x_call1 en_43 rfl rfl) ?_
 rintro _ w ⟨rfl, hE⟩
 replace hF := hF.ext hE
 clear hE
 refine ⟨hF.sub (.cons _ (.cons _ (.cons _ (.cons_cons _ .slnil)))), ?_⟩
 refine f_call rfl (of_c [120] _) (x_call1 en_25 rfl rfl) ?_
 rintro _ w ⟨rfl, hE⟩
 replace hF := hF.ext hE
 clear hE
 refine ⟨hF.sub (.cons _ (.cons _ (.cons _ (.cons_cons _ .slnil)))), ?_⟩
 refine f_new rfl (v := fun b => .slice (some ⟨b, 0, none⟩) 2 2) hF (x_buildSlice (cs := #[.int .i64 (5), .string (bs ([])), .slice (none) (0) (0), .slice (some ⟨b14, 0, none⟩) (2) (2), .int .i64 (4), .string (bs ([120])), .slice (none) (0) (0), .slice (none) (0) (0)]) Tryz.underlying23 Tryz.sizeOf25 Tryz.zeroValue25 (by decide) (by decide) (by kernel_rfl)) ?_
 clear hF; rintro b15 w hb15 hF -
 refine ⟨hF.sub (.cons _ (.cons _ (.cons _ (.cons _ (.cons_cons _ .slnil))))), ?_⟩
 refine f_call rfl (map_c (some ⟨b2, 0, none⟩) 2 2 (some ⟨b15, 0, none⟩) 2 2 _) (x_call2 en_49 rfl rfl rfl) ?_
 rintro _ w ⟨rfl, hE⟩
 replace hF := hF.ext hE
 clear hE
 refine ⟨hF.sub (.cons _ (.cons _ (.cons _ (.cons _ (.cons_cons _ .slnil))))), ?_⟩
 refine f_storez rfl 2 (l := [.int .i64 (6), .string (bs ([])), .slice (some ⟨b2, 0, none⟩) (2) (2), .slice (some ⟨b15, 0, none⟩) (2) (2)]) (cs' := #[.int .i64 (6), .string (bs ([])), .slice (some ⟨b2, 0, none⟩) (2) (2), .slice (some ⟨b15, 0, none⟩) (2) (2)]) hF Tryz.sizeOf25 rfl (v := .agg #[.int .i64 (6), .string (bs ([])), .slice (some ⟨b2, 0, none⟩) (2) (2), .slice (some ⟨b15, 0, none⟩) (2) (2)]) rfl rfl (by simp [one]) rfl (Nat.le_of_ble_eq_true rfl) rfl ?_
 clear hF; rintro w hF -
 replace hF : FR w0 [] [(b15, .cells #[.int .i64 (5), .string (bs ([])), .slice (none) (0) (0), .slice (some ⟨b14, 0, none⟩) (2) (2), .int .i64 (4), .string (bs ([120])), .slice (none) (0) (0), .slice (none) (0) (0)] 25), (b14, .cells #[.int .i64 (3), .string (bs ([49])), .slice (none) (0) (0), .slice (none) (0) (0), .int .i64 (1), .string (bs ([])), .slice (none) (0) (0), .slice (none) (0) (0)] 25), (b13, .cells #[.int .i64 (6), .string (bs ([])), .slice (some ⟨b2, 0, none⟩) (2) (2), .slice (some ⟨b15, 0, none⟩) (2) (2)] 25), (b2, .cells #[.string (bs ([98])), .string (bs ([97]))] 9), (b1, .cells #[.int .i64 (1), .string (bs ([])), .slice (none) (0) (0), .slice (none) (0) (0)] 25)] w := hF
 refine d_nil ?_
 have hR : RX w0 [] w [treeD rwT] [.int .i64 (5), .string (bs ([])), .slice (none) (0) (0), .slice (some ⟨b14, 0, none⟩) (2) (2)] := RX.tree ⟨by omega, by omega⟩ (by simp) RX.nils (hF.rowX 1 rfl (RX.append (ds := [_]) (RX.num _ (by simp)) (RX.tree ⟨by omega, by omega⟩ (by simp) RX.nils RX.nils)) (by simp) rfl (by omega))
 have hZ : RX w0 [] w [treeD wT] [.int .i64 (6), .string (bs ([])), .slice (some ⟨b2, 0, none⟩) (2) (2), .slice (some ⟨b15, 0, none⟩) (2) (2)] := RX.tree ⟨by omega, by omega⟩ (by simp) (hF.rowX 3 rfl (RX.strs (ks := [[98], [97]]) (by simp)) (by simp) rfl (by omega)) (hF.rowX 0 rfl (RX.append (ds := [_]) hR (RX.str _ (by simp))) (by simp) rfl (by omega))
 exact e_inv ⟨(b13), ([.int .i64 (6), .string (bs ([])), .slice (some ⟨b2, 0, none⟩) (2) (2), .slice (some ⟨b15, 0, none⟩) (2) (2)]), (rfl), (by simp [one]), (hZ), ⟨rfl, trivial⟩, (((((hF.front 4 rfl).front 3 rfl).erase 2).erase 2).erase 2)⟩
 refine f_new rfl (v := fun b => .pointer (some ⟨b, 0, none⟩)) (o := .cells #[.int .i64 (0), .string (bs ([])), .slice (none) (0) (0), .slice (none) (0) (0)] 25) hF (x_alloc Tryz.zeroValue25) ?_
 clear hF; rintro b16 w hb16 hF -
 refine ⟨hF.sub (.cons _ (.cons _ (.cons_cons _ .slnil))), ?_⟩
 refine f_call rfl (ret_eq (v' := .agg #[.int .i64 (3), .string (bs ([49])), .slice (none) (0) (0), .slice (none) (0) (0)]) (num_c 1 (by omega) (by omega) _ (hG.ext hF.same)) (by kernel_rfl)) (x_call1 en_39 rfl rfl) ?_
 rintro _ w ⟨rfl, hE⟩
 replace hF := hF.ext hE
 clear hE
 refine ⟨hF.sub (.cons _ (.cons _ (.cons_cons _ .slnil))), ?_⟩
 refine f_new rfl (v := fun b => .slice (some ⟨b, 0, none⟩) 2 2) hF (x_buildSlice (cs := #[.int .i64 (3), .string (bs ([49])), .slice (none) (0) (0), .slice (none) (0) (0), .int .i64 (1), .string (bs ([])), .slice (none) (0) (0), .slice (none) (0) (0)]) Tryz.underlying23 Tryz.sizeOf25 Tryz.zeroValue25 (by decide) (by decide) (by kernel_rfl)) ?_
 clear hF; rintro b17 w hb17 hF -
 refine ⟨hF.sub (.cons _ (.cons _ (.cons _ (.cons_cons _ .slnil)))), ?_⟩
 refine f_call rfl (row_c (some ⟨b17, 0, none⟩) 2 2 _) (x_call1 en_43 rfl rfl) ?_
 rintro _ w ⟨rfl, hE⟩
 replace hF := hF.ext hE
 clear hE
 refine ⟨hF.sub (.cons _ (.cons _ (.cons _ (.cons_cons _ .slnil)))), ?_⟩
 refine f_call rfl (of_c [120] _) (x_call1 en_25 rfl rfl) ?_
 rintro _ w ⟨rfl, hE⟩
 replace hF := hF.ext hE
 clear hE
 refine ⟨hF.sub (.cons _ (.cons _ (.cons _ (.cons_cons _ .slnil)))), ?_⟩
 refine f_new rfl (v := fun b => .slice (some ⟨b, 0, none⟩) 2 2) hF (x_buildSlice (cs := #[.int .i64 (5), .string (bs ([])), .slice (none) (0) (0), .slice (some ⟨b17, 0, none⟩) (2) (2), .int .i64 (4), .string (bs ([120])), .slice (none) (0) (0), .slice (none) (0) (0)]) Tryz.underlying23 Tryz.sizeOf25 Tryz.zeroValue25 (by decide) (by decide) (by kernel_rfl)) ?_
 clear hF; rintro b18 w hb18 hF -
 refine ⟨hF.sub (.cons _ (.cons _ (.cons _ (.cons _ (.cons_cons _ .slnil))))), ?_⟩
 refine f_call rfl (map_c (some ⟨b2, 0, none⟩) 2 2 (some ⟨b18, 0, none⟩) 2 2 _) (x_call2 en_49 rfl rfl rfl) ?_
 rintro _ w ⟨rfl, hE⟩
 replace hF := hF.ext hE
 clear hE
 refine ⟨hF.sub (.cons _ (.cons _ (.cons _ (.cons _ (.cons_cons _ .slnil))))), ?_⟩
 refine f_storez rfl 2 (l := [.int .i64 (6), .string (bs ([])), .slice (some ⟨b2, 0, none⟩) (2) (2), .slice (some ⟨b18, 0, none⟩) (2) (2)]) (cs' := #[.int .i64 (6), .string (bs ([])), .slice (some ⟨b2, 0, none⟩) (2) (2), .slice (some ⟨b18, 0, none⟩) (2) (2)]) hF Tryz.sizeOf25 rfl (v := .agg #[.int .i64 (6), .string (bs ([])), .slice (some ⟨b2, 0, none⟩) (2) (2), .slice (some ⟨b18, 0, none⟩) (2) (2)]) rfl rfl (by simp [one]) rfl (Nat.le_of_ble_eq_true rfl) rfl ?_
 clear hF; rintro w hF -
 replace hF : FR w0 [] [(b18, .cells #[.int .i64 (5), .string (bs ([])), .slice (none) (0) (0), .slice (some ⟨b17, 0, none⟩) (2) (2), .int .i64 (4), .string (bs ([120])), .slice (none) (0) (0), .slice (none) (0) (0)] 25), (b17, .cells #[.int .i64 (3), .string (bs ([49])), .slice (none) (0) (0), .slice (none) (0) (0), .int .i64 (1), .string (bs ([])), .slice (none) (0) (0), .slice (none) (0) (0)] 25), (b16, .cells #[.int .i64 (6), .string (bs ([])), .slice (some ⟨b2, 0, none⟩) (2) (2), .slice (some ⟨b18, 0, none⟩) (2) (2)] 25), (b2, .cells #[.string (bs ([98])), .string (bs ([97]))] 9), (b1, .cells #[.int .i64 (1), .string (bs ([])), .slice (none) (0) (0), .slice (none) (0) (0)] 25)] w := hF
 refine d_nil ?_
 have hR : RX w0 [] w [treeD rwT] [.int .i64 (5), .string (bs ([])), .slice (none) (0) (0), .slice (some ⟨b17, 0, none⟩) (2) (2)] := RX.tree ⟨by omega, by omega⟩ (by simp) RX.nils (hF.rowX 1 rfl (RX.append (ds := [_]) (RX.num _ (by simp)) (RX.tree ⟨by omega, by omega⟩ (by simp) RX.nils RX.nils)) (by simp) rfl (by omega))
 have hZ : RX w0 [] w [treeD wT] [.int .i64 (6), .string (bs ([])), .slice (some ⟨b2, 0, none⟩) (2) (2), .slice (some ⟨b18, 0, none⟩) (2) (2)] := RX.tree ⟨by omega, by omega⟩ (by simp) (hF.rowX 3 rfl (RX.strs (ks := [[98], [97]]) (by simp)) (by simp) rfl (by omega)) (hF.rowX 0 rfl (RX.append (ds := [_]) hR (RX.str _ (by simp))) (by simp) rfl (by omega))
 exact e_inv ⟨(b16), ([.int .i64 (6), .string (bs ([])), .slice (some ⟨b2, 0, none⟩) (2) (2), .slice (some ⟨b18, 0, none⟩) (2) (2)]), (rfl), (by simp [one]), (hZ), ⟨rfl, trivial⟩, (((((hF.front 4 rfl).front 3 rfl).erase 2).erase 2).erase 2)⟩
 refine d_alt ?_ ?_
 refine f_call rfl (ret_eq (v' := .agg #[.int .i64 (3), .string (bs ([49])), .slice (none) (0) (0), .slice (none) (0) (0)]) (num_c 1 (by omega) (by omega) _ (hG.ext hF.same)) (by kernel_rfl)) (x_call1 en_39 rfl rfl) ?_
 rintro _ w ⟨rfl, hE⟩
 replace hF := hF.ext hE
 clear hE
 refine ⟨hF, ?_⟩
 refine d_alt ?_ ?_
 refine f_new rfl (v := fun b => .slice (some ⟨b, 0, none⟩) 2 2) hF (x_buildSlice (cs := #[.string (bs ([98])), .string (bs ([97]))]) Tryz.underlying22 Tryz.sizeOf9 Tryz.zeroValue9 (by decide) (by decide) (by kernel_rfl)) ?_
 clear hF; rintro b19 w hb19 hF -
 refine ⟨hF.sub (.cons _ (.cons_cons _ .slnil)), ?_⟩
 refine d_alt ?_ ?_
 refine f_new rfl (v := fun b => .slice (some ⟨b, 0, none⟩) 2 2) hF (x_buildSlice (cs := #[.int .i64 (3), .string (bs ([49])), .slice (none) (0) (0), .slice (none) (0) (0), .int .i64 (1), .string (bs ([])), .slice (none) (0) (0), .slice (none) (0) (0)]) Tryz.underlying23 Tryz.sizeOf25 Tryz.zeroValue25 (by decide) (by decide) (by kernel_rfl)) ?_
 clear hF; rintro b20 w hb20 hF -
 refine ⟨hF.sub (.cons _ (.cons _ (.cons_cons _ .slnil))), ?_⟩
 refine d_alt ?_ ?_
 refine f_call rfl (row_c (some ⟨b20, 0, none⟩) 2 2 _) (x_call1 en_43 rfl rfl) ?_
 rintro _ w ⟨rfl, hE⟩
 replace hF := hF.ext hE
 clear hE
 refine ⟨hF.sub (.cons _ (.cons _ (.cons_cons _ .slnil))), ?_⟩
 refine d_alt ?_ ?_
 refine f_call rfl (of_c [120] _) (x_call1 en_25 rfl rfl) ?_
 rintro _ w ⟨rfl, hE⟩
 replace hF := hF.ext hE
 clear hE
 refine ⟨hF.sub (.cons _ (.cons _ (.cons_cons _ .slnil))), ?_⟩
 refine d_alt ?_ ?_
 refine f_new rfl (v := fun b => .slice (some ⟨b, 0, none⟩) 2 2) hF (x_buildSlice (cs := #[.int .i64 (5), .string (bs ([])), .slice (none) (0) (0), .slice (some ⟨b20, 0, none⟩) (2) (2), .int .i64 (4), .string (bs ([120])), .slice (none) (0) (0), .slice (none) (0) (0)]) Tryz.underlying23 Tryz.sizeOf25 Tryz.zeroValue25 (by decide) (by decide) (by kernel_rfl)) ?_
 clear hF; rintro b21 w hb21 hF -
 refine ⟨hF.sub (.cons _ (.cons _ (.cons _ (.cons_cons _ .slnil)))), ?_⟩
 refine d_alt ?_ ?_
 refine f_call rfl (map_c (some ⟨b19, 0, none⟩) 2 2 (some ⟨b21, 0, none⟩) 2 2 _) (x_call2 en_49 rfl rfl rfl) ?_
 rintro _ w ⟨rfl, hE⟩
 replace hF := hF.ext hE
 clear hE
 refine ⟨hF.sub (.cons _ (.cons _ (.cons _ (.cons_cons _ .slnil)))), ?_⟩
 refine f_new rfl (v := fun b => .pointer (some ⟨b, 0, none⟩)) (o := .cells #[.int .i64 (0), .string (bs ([])), .slice (none) (0) (0), .slice (none) (0) (0)] 25) hF (x_alloc Tryz.zeroValue25) ?_
 clear hF; rintro b22 w hb22 hF -
 refine ⟨hF.sub (.cons _ (.cons _ (.cons _ (.cons _ (.cons_cons _ .slnil))))), ?_⟩
 refine f_storez rfl 0 (l := [.int .i64 (6), .string (bs ([])), .slice (some ⟨b19, 0, none⟩) (2) (2), .slice (some ⟨b21, 0, none⟩) (2) (2)]) (cs' := #[.int .i64 (6), .string (bs ([])), .slice (some ⟨b19, 0, none⟩) (2) (2), .slice (some ⟨b21, 0, none⟩) (2) (2)]) hF Tryz.sizeOf25 rfl (v := .agg #[.int .i64 (6), .string (bs ([])), .slice (some ⟨b19, 0, none⟩) (2) (2), .slice (some ⟨b21, 0, none⟩) (2) (2)]) rfl rfl (by simp [one]) rfl (Nat.le_of_ble_eq_true rfl) rfl ?_
 clear hF; rintro w hF -
 replace hF : FR w0 [] [(b22, .cells #[.int .i64 (6), .string (bs ([])), .slice (some ⟨b19, 0, none⟩) (2) (2), .slice (some ⟨b21, 0, none⟩) (2) (2)] 25), (b21, .cells #[.int .i64 (5), .string (bs ([])), .slice (none) (0) (0), .slice (some ⟨b20, 0, none⟩) (2) (2), .int .i64 (4), .string (bs ([120])), .slice (none) (0) (0), .slice (none) (0) (0)] 25), (b20, .cells #[.int .i64 (3), .string (bs ([49])), .slice (none) (0) (0), .slice (none) (0) (0), .int .i64 (1), .string (bs ([])), .slice (none) (0) (0), .slice (none) (0) (0)] 25), (b19, .cells #[.string (bs ([98])), .string (bs ([97]))] 9), (b1, .cells #[.int .i64 (1), .string (bs ([])), .slice (none) (0) (0), .slice (none) (0) (0)] 25)] w := hF
 refine d_nil ?_
 have hR : RX w0 [] w [treeD rwT] [.int .i64 (5), .string (bs ([])), .slice (none) (0) (0), .slice (some ⟨b20, 0, none⟩) (2) (2)] := RX.tree ⟨by omega, by omega⟩ (by simp) RX.nils (hF.rowX 2 rfl (RX.append (ds := [_]) (RX.num _ (by simp)) (RX.tree ⟨by omega, by omega⟩ (by simp) RX.nils RX.nils)) (by simp) rfl (by omega))
 have hZ : RX w0 [] w [treeD wT] [.int .i64 (6), .string (bs ([])), .slice (some ⟨b19, 0, none⟩) (2) (2), .slice (some ⟨b21, 0, none⟩) (2) (2)] := RX.tree ⟨by omega, by omega⟩ (by simp) (hF.rowX 3 rfl (RX.strs (ks := [[98], [97]]) (by simp)) (by simp) rfl (by omega)) (hF.rowX 1 rfl (RX.append (ds := [_]) hR (RX.str _ (by simp))) (by simp) rfl (by omega))
 exact e_inv ⟨(b22), ([.int .i64 (6), .string (bs ([])), .slice (some ⟨b19, 0, none⟩) (2) (2), .slice (some ⟨b21, 0, none⟩) (2) (2)]), (rfl), (by simp [one]), (hZ), ⟨rfl, trivial⟩, (((((hF.front 4 rfl).front 1 rfl).erase 2).erase 2).erase 2)⟩
 refine f_new rfl (v := fun b => .pointer (some ⟨b, 0, none⟩)) (o := .cells #[.int .i64 (0), .string (bs ([])), .slice (none) (0) (0), .slice (none) (0) (0)] 25) hF (x_alloc Tryz.zeroValue25) ?_
 clear hF; rintro b23 w hb23 hF -
 refine ⟨hF.sub (.cons _ (.cons _ (.cons _ (.cons _ (.cons_cons _ .slnil))))), ?_⟩
 refine f_call rfl (map_c (some ⟨b19, 0, none⟩) 2 2 (some ⟨b21, 0, none⟩) 2 2 _) (x_call2 en_49 rfl rfl rfl) ?_
 rintro _ w ⟨rfl, hE⟩
 replace hF := hF.ext hE
 clear hE
 refine ⟨hF.sub (.cons _ (.cons _ (.cons _ (.cons _ (.cons_cons _ .slnil))))), ?_⟩
 refine f_storez rfl 0 (l := [.int .i64 (6), .string (bs ([])), .slice (some ⟨b19, 0, none⟩) (2) (2), .slice (some ⟨b21, 0, none⟩) (2) (2)]) (cs' := #[.int .i64 (6), .string (bs ([])), .slice (some ⟨b19, 0, none⟩) (2) (2), .slice (some ⟨b21, 0, none⟩) (2) (2)]) hF Tryz.sizeOf25 rfl (v := .agg #[.int .i64 (6), .string (bs ([])), .slice (some ⟨b19, 0, none⟩) (2) (2), .slice (some ⟨b21, 0, none⟩) (2) (2)]) rfl rfl (by simp [one]) rfl (Nat.le_of_ble_eq_true rfl) rfl ?_
 clear hF; rintro w hF -
 replace hF : FR w0 [] [(b23, .cells #[.int .i64 (6), .string (bs ([])), .slice (some ⟨b19, 0, none⟩) (2) (2), .slice (some ⟨b21, 0, none⟩) (2) (2)] 25), (b21, .cells #[.int .i64 (5), .string (bs ([])), .slice (none) (0) (0), .slice (some ⟨b20, 0, none⟩) (2) (2), .int .i64 (4), .string (bs ([120])), .slice (none) (0) (0), .slice (none) (0) (0)] 25), (b20, .cells #[.int .i64 (3), .string (bs ([49])), .slice (none) (0) (0), .slice (none) (0) (0), .int .i64 (1), .string (bs ([])), .slice (none) (0) (0), .slice (none) (0) (0)] 25), (b19, .cells #[.string (bs ([98])), .string (bs ([97]))] 9), (b1, .cells #[.int .i64 (1), .string (bs ([])), .slice (none) (0) (0), .slice (none) (0) (0)] 25)] w := hF
 refine d_nil ?_
 have hR : RX w0 [] w [treeD rwT] [.int .i64 (5), .string (bs ([])), .slice (none) (0) (0), .slice (some ⟨b20, 0, none⟩) (2) (2)] := RX.tree ⟨by omega, by omega⟩ (by simp) RX.nils (hF.rowX 2 rfl (RX.append (ds := [_]) (RX.num _ (by simp)) (RX.tree ⟨by omega, by omega⟩ (by simp) RX.nils RX.nils)) (by simp) rfl (by omega))
 have hZ : RX w0 [] w [treeD wT] [.int .i64 (6), .string (bs ([])), .slice (some ⟨b19, 0, none⟩) (2) (2), .slice (some ⟨b21, 0, none⟩) (2) (2)] := RX.tree ⟨by omega, by omega⟩ (by simp) (hF.rowX 3 rfl (RX.strs (ks := [[98], [97]]) (by simp)) (by simp) rfl (by omega)) (hF.rowX 1 rfl (RX.append (ds := [_]) hR (RX.str _ (by simp))) (by simp) rfl (by omega))
 exact e_inv ⟨(b23), ([.int .i64 (6), .string (bs ([])), .slice (some ⟨b19, 0, none⟩) (2) (2), .slice (some ⟨b21, 0, none⟩) (2) (2)]), (rfl), (by simp [one]), (hZ), ⟨rfl, trivial⟩, (((((hF.front 4 rfl).front 1 rfl).erase 2).erase 2).erase 2)⟩
 refine f_new rfl (v := fun b => .pointer (some ⟨b, 0, none⟩)) (o := .cells #[.int .i64 (0), .string (bs ([])), .slice (none) (0) (0), .slice (none) (0) (0)] 25) hF (x_alloc Tryz.zeroValue25) ?_
 clear hF; rintro b24 w hb24 hF -
 refine ⟨hF.sub (.cons _ (.cons _ (.cons _ (.cons_cons _ .slnil)))), ?_⟩
 refine f_new rfl (v := fun b => .slice (some ⟨b, 0, none⟩) 2 2) hF (x_buildSlice (cs := #[.int .i64 (5), .string (bs ([])), .slice (none) (0) (0), .slice (some ⟨b20, 0, none⟩) (2) (2), .int .i64 (4), .string (bs ([120])), .slice (none) (0) (0), .slice (none) (0) (0)]) Tryz.underlying23 Tryz.sizeOf25 Tryz.zeroValue25 (by decide) (by decide) (by kernel_rfl)) ?_
 clear hF; rintro b25 w hb25 hF -
 refine ⟨hF.sub (.cons _ (.cons _ (.cons _ (.cons _ (.cons_cons _ .slnil))))), ?_⟩
 refine f_call rfl (map_c (some ⟨b19, 0, none⟩) 2 2 (some ⟨b25, 0, none⟩) 2 2 _) (x_call2 en_49 rfl rfl rfl) ?_
 rintro _ w ⟨rfl, hE⟩
 replace hF := hF.ext hE
 clear hE
 refine ⟨hF.sub (.cons _ (.cons _ (.cons _ (.cons _ (.cons_cons _ .slnil))))), ?_⟩
 refine f_storez rfl 1 (l := [.int .i64 (6), .string (bs ([])), .slice (some ⟨b19, 0, none⟩) (2) (2), .slice (some ⟨b25, 0, none⟩) (2) (2)]) (cs' := #[.int .i64 (6), .string (bs ([])), .slice (some ⟨b19, 0, none⟩) (2) (2), .slice (some ⟨b25, 0, none⟩) (2) (2)]) hF Tryz.sizeOf25 rfl (v := .agg #[.int .i64 (6), .string (bs ([])), .slice (some ⟨b19, 0, none⟩) (2) (2), .slice (some ⟨b25, 0, none⟩) (2) (2)]) rfl rfl (by simp [one]) rfl (Nat.le_of_ble_eq_true rfl) rfl ?_
 clear hF; rintro w hF -
 replace hF : FR w0 [] [(b25, .cells #[.int .i64 (5), .string (bs ([])), .slice (none) (0) (0), .slice (some ⟨b20, 0, none⟩) (2) (2), .int .i64 (4), .string (bs ([120])), .slice (none) (0) (0), .slice (none) (0) (0)] 25), (b24, .cells #[.int .i64 (6), .string (bs ([])), .slice (some ⟨b19, 0, none⟩) (2) (2), .slice (some ⟨b25, 0, none⟩) (2) (2)] 25), (b20, .cells #[.int .i64 (3), .string (bs ([49])), .slice (none) (0) (0), .slice (none) (0) (0), .int .i64 (1), .string (bs ([])), .slice (none) (0) (0), .slice (none) (0) (0)] 25), (b19, .cells #[.string (bs ([98])), .string (bs ([97]))] 9), (b1, .cells #[.int .i64 (1), .string (bs ([])), .slice (none) (0) (0), .slice (none) (0) (0)] 25)] w := hF
 refine d_nil ?_
 have hR : RX w0 [] w [treeD rwT] [.int .i64 (5), .string (bs ([])), .slice (none) (0) (0), .slice (some ⟨b20, 0, none⟩) (2) (2)] := RX.tree ⟨by omega, by omega⟩ (by simp) RX.nils (hF.rowX 2 rfl (RX.append (ds := [_]) (RX.num _ (by simp)) (RX.tree ⟨by omega, by omega⟩ (by simp) RX.nils RX.nils)) (by simp) rfl (by omega))
 have hZ : RX w0 [] w [treeD wT] [.int .i64 (6), .string (bs ([])), .slice (some ⟨b19, 0, none⟩) (2) (2), .slice (some ⟨b25, 0, none⟩) (2) (2)] := RX.tree ⟨by omega, by omega⟩ (by simp) (hF.rowX 3 rfl (RX.strs (ks := [[98], [97]]) (by simp)) (by simp) rfl (by omega)) (hF.rowX 0 rfl (RX.append (ds := [_]) hR (RX.str _ (by simp))) (by simp) rfl (by omega))
 exact e_inv ⟨(b24), ([.int .i64 (6), .string (bs ([])), .slice (some ⟨b19, 0, none⟩) (2) (2), .slice (some ⟨b25, 0, none⟩) (2) (2)]), (rfl), (by simp [one]), (hZ), ⟨rfl, trivial⟩, (((((hF.front 4 rfl).front 2 rfl).erase 2).erase 2).erase 2)⟩
 refine f_new rfl (v := fun b => .pointer (some ⟨b, 0, none⟩)) (o := .cells #[.int .i64 (0), .string (bs ([])), .slice (none) (0) (0), .slice (none) (0) (0)] 25) hF (x_alloc Tryz.zeroValue25) ?_
 clear hF; rintro b26 w hb26 hF -
 refine ⟨hF.sub (.cons _ (.cons _ (.cons _ (.cons_cons _ .slnil)))), ?_⟩
 refine f_call rfl (of_c [120] _) (x_call1 en_25 rfl rfl) ?_
 rintro _ w ⟨rfl, hE⟩
 replace hF := hF.ext hE
 clear hE
 refine ⟨hF.sub (.cons _ (.cons _ (.cons _ (.cons_cons _ .slnil)))), ?_⟩
 refine f_new rfl (v := fun b => .slice (some ⟨b, 0, none⟩) 2 2) hF (x_buildSlice (cs := #[.int .i64 (5), .string (bs ([])), .slice (none) (0) (0), .slice (some ⟨b20, 0, none⟩) (2) (2), .int .i64 (4), .string (bs ([120])), .slice (none) (0) (0), .slice (none) (0) (0)]) Tryz.underlying23 Tryz.sizeOf25 Tryz.zeroValue25 (by decide) (by decide) (by kernel_rfl)) ?_
 clear hF; rintro b27 w hb27 hF -
 refine ⟨hF.sub (.cons _ (.cons _ (.cons _ (.cons _ (.cons_cons _ .slnil))))), ?_⟩
 refine f_call rfl (map_c (some ⟨b19, 0, none⟩) 2 2 (some ⟨b27, 0, none⟩) 2 2 _) (x_call2 en_49 rfl rfl rfl) ?_
 rintro _ w ⟨rfl, hE⟩
 replace hF := hF.ext hE
 clear hE
 refine ⟨hF.sub (.cons _ (.cons _ (.cons _ (.cons _ (.cons_cons _ .slnil))))), ?_⟩
 refine f_storez rfl 1 (l := [.int .i64 (6), .string (bs ([])), .slice (some ⟨b19, 0, none⟩) (2) (2), .slice (some ⟨b27, 0, none⟩) (2) (2)]) (cs' := #[.int .i64 (6), .string (bs ([])), .slice (some ⟨b19, 0, none⟩) (2) (2), .slice (some ⟨b27, 0, none⟩) (2) (2)]) hF Tryz.sizeOf25 rfl (v := .agg #[.int .i64 (6), .string (bs ([])), .slice (some ⟨b19, 0, none⟩) (2) (2), .slice (some ⟨b27, 0, none⟩) (2) (2)]) rfl rfl (by simp [one]) rfl (Nat.le_of_ble_eq_true rfl) rfl ?_
 clear hF; rintro w hF -
 replace hF : FR w0 [] [(b27, .cells #[.int .i64 (5), .string (bs ([])), .slice (none) (0) (0), .slice (some ⟨b20, 0, none⟩) (2) (2), .int .i64 (4), .string (bs ([120])), .slice (none) (0) (0), .slice (none) (0) (0)] 25), (b26, .cells #[.int .i64 (6), .string (bs ([])), .slice (some ⟨b19, 0, none⟩) (2) (2), .slice (some ⟨b27, 0, none⟩) (2) (2)] 25), (b20, .cells #[.int .i64 (3), .string (bs ([49])), .slice (none) (0) (0), .slice (none) (0) (0), .int .i64 (1), .string (bs ([])), .slice (none) (0) (0), .slice (none) (0) (0)] 25), (b19, .cells #[.string (bs ([98])), .string (bs ([97]))] 9), (b1, .cells #[.int .i64 (1), .string (bs ([])), .slice (none) (0) (0), .slice (none) (0) (0)] 25)] w := hF
 refine d_nil ?_
 have hR : RX w0 [] w [treeD rwT] [.int .i64 (5), .string (bs ([])), .slice (none) (0) (0), .slice (some ⟨b20, 0, none⟩) (2) (2)] := RX.tree ⟨by omega, by omega⟩ (by simp) RX.nils (hF.rowX 2 rfl (RX.append (ds := [_]) (RX.num _ (by simp)) (RX.tree ⟨by omega, by omega⟩ (by simp) RX.nils RX.nils)) (by simp) rfl (by omega))
 have hZ : RX w0 [] w [treeD wT] [.int .i64 (6), .string (bs ([])), .slice (some ⟨b19, 0, none⟩) (2) (2), .slice (some ⟨b27, 0, none⟩) (2) (2)] := RX.tree ⟨by omega, by omega⟩ (by simp) (hF.rowX 3 rfl (RX.strs (ks := [[98], [97]]) (by simp)) (by simp) rfl (by omega)) (hF.rowX 0 rfl (RX.append (ds := [_]) hR (RX.str _ (by simp))) (by simp) rfl (by omega))
 exact e_inv ⟨(b26), ([.int .i64 (6), .string (bs ([])), .slice (some ⟨b19, 0, none⟩) (2) (2), .slice (some ⟨b27, 0, none⟩) (2) (2)]), (rfl), (by simp [one]), (hZ), ⟨rfl, trivial⟩, (((((hF.front 4 rfl).front 2 rfl).erase 2).erase 2).erase 2)⟩
 refine f_new rfl (v := fun b => .pointer (some ⟨b, 0, none⟩)) (o := .cells #[.int .i64 (0), .string (bs ([])), .slice (none) (0) (0), .slice (none) (0) (0)] 25) hF (x_alloc Tryz.zeroValue25) ?_
 clear hF; rintro b28 w hb28 hF -
 refine ⟨hF.sub (.cons _ (.cons _ (.cons _ (.cons_cons _ .slnil)))), ?_⟩
 refine f_call rfl (row_c (some ⟨b20, 0, none⟩) 2 2 _) (x_call1 en_43 rfl rfl) ?_
 rintro _ w ⟨rfl, hE⟩
 replace hF := hF.ext hE
 clear hE
 refine ⟨hF.sub (.cons _ (.cons _ (.cons _ (.cons_cons _ .slnil)))), ?_⟩
 refine f_call rfl (of_c [120] _) (x_call1 en_25 rfl rfl) ?_
 rintro _ w ⟨rfl, hE⟩
 replace hF := hF.ext hE
 clear hE
 refine ⟨hF.sub (.cons _ (.cons _ (.cons _ (.cons_cons _ .slnil)))), ?_⟩
 refine f_new rfl (v := fun b => .slice (some ⟨b, 0, none⟩) 2 2) hF (x_buildSlice (cs := #[.int .i64 (5), .string (bs ([])), .slice (none) (0) (0), .slice (some ⟨b20, 0, none⟩) (2) (2), .int .i64 (4), .string (bs ([120])), .slice (none) (0) (0), .slice (none) (0) (0)]) Tryz.underlying23 Tryz.sizeOf25 Tryz.zeroValue25 (by decide) (by decide) (by kernel_rfl)) ?_
 clear hF; rintro b29 w hb29 hF -
 refine ⟨hF.sub (.cons _ (.cons _ (.cons _ (.cons _ (.cons_cons _ .slnil))))), ?_⟩
 refine f_call rfl (map_c (some ⟨b19, 0, none⟩) 2 2 (some ⟨b29, 0, none⟩) 2 2 _) (x_call2 en_49 rfl rfl rfl) ?_
 rintro _ w ⟨rfl, hE⟩
 replace hF := hF.ext hE
 clear hE
 refine ⟨hF.sub (.cons _ (.cons _ (.cons _ (.cons _ (.cons_cons _ .slnil))))), ?_⟩
 refine f_storez rfl 1 (l := [.int .i64 (6), .string (bs ([])), .slice (some ⟨b19, 0, none⟩) (2) (2), .slice (some ⟨b29, 0, none⟩) (2) (2)]) (cs' := #[.int .i64 (6), .string (bs ([])), .slice (some ⟨b19, 0, none⟩) (2) (2), .slice (some ⟨b29, 0, none⟩) (2) (2)]) hF Tryz.sizeOf25 rfl (v := .agg #[.int .i64 (6), .string (bs ([])), .slice (some ⟨b19, 0, none⟩) (2) (2), .slice (some ⟨b29, 0, none⟩) (2) (2)]) rfl rfl (by simp [one]) rfl (Nat.le_of_ble_eq_true rfl) rfl ?_
 clear hF; rintro w hF -
 replace hF : FR w0 [] [(b29, .cells #[.int .i64 (5), .string (bs ([])), .slice (none) (0) (0), .slice (some ⟨b20, 0, none⟩) (2) (2), .int .i64 (4), .string (bs ([120])), .slice (none) (0) (0), .slice (none) (0) (0)] 25), (b28, .cells #[.int .i64 (6), .string (bs ([])), .slice (some ⟨b19, 0, none⟩) (2) (2), .slice (some ⟨b29, 0, none⟩) (2) (2)] 25), (b20, .cells #[.int .i64 (3), .string (bs ([49])), .slice (none) (0) (0), .slice (none) (0) (0), .int .i64 (1), .string (bs ([])), .slice (none) (0) (0), .slice (none) (0) (0)] 25), (b19, .cells #[.string (bs ([98])), .string (bs ([97]))] 9), (b1, .cells #[.int .i64 (1), .string (bs ([])), .slice (none) (0) (0), .slice (none) (0) (0)] 25)] w := hF
 refine d_nil ?_
 have hR : RX w0 [] w [treeD rwT] [.int .i64 (5), .string (bs ([])), .slice (none) (0) (0), .slice (some ⟨b20, 0, none⟩) (2) (2)] := RX.tree ⟨by omega, by omega⟩ (by simp) RX.nils (hF.rowX 2 rfl (RX.append (ds := [_]) (RX.num _ (by simp)) (RX.tree ⟨by omega, by omega⟩ (by simp) RX.nils RX.nils)) (by simp) rfl (by omega))
 have hZ : RX w0 [] w [treeD wT] [.int .i64 (6), .string (bs ([])), .slice (some ⟨b19, 0, none⟩) (2) (2), .slice (some ⟨b29, 0, none⟩) (2) (2)] := RX.tree ⟨by omega, by omega⟩ (by simp) (hF.rowX 3 rfl (RX.strs (ks := [[98], [97]]) (by simp)) (by simp) rfl (by omega)) (hF.rowX 0 rfl (RX.append (ds := [_]) hR (RX.str _ (by simp))) (by simp) rfl (by omega))
 exact e_inv ⟨(b28), ([.int .i64 (6), .string (bs ([])), .slice (some ⟨b19, 0, none⟩) (2) (2), .slice (some ⟨b29, 0, none⟩) (2) (2)]), (rfl), (by simp [one]), (hZ), ⟨rfl, trivial⟩, (((((hF.front 4 rfl).front 2 rfl).erase 2).erase 2).erase 2)⟩
 refine f_new rfl (v := fun b => .pointer (some ⟨b, 0, none⟩)) (o := .cells #[.int .i64 (0), .string (bs ([])), .slice (none) (0) (0), .slice (none) (0) (0)] 25) hF (x_alloc Tryz.zeroValue25) ?_
 clear hF; rintro b30 w hb30 hF -
 refine ⟨hF.sub (.cons _ (.cons _ (.cons_cons _ .slnil))), ?_⟩
 refine f_new rfl (v := fun b => .slice (some ⟨b, 0, none⟩) 2 2) hF (x_buildSlice (cs := #[.int .i64 (3), .string (bs ([49])), .slice (none) (0) (0), .slice (none) (0) (0), .int .i64 (1), .string (bs ([])), .slice (none) (0) (0), .slice (none) (0) (0)]) Tryz.underlying23 Tryz.sizeOf25 Tryz.zeroValue25 (by decide) (by decide) (by kernel_rfl)) ?_
 clear hF; rintro b31 w hb31 hF -
 refine ⟨hF.sub (.cons _ (.cons _ (.cons _ (.cons_cons _ .slnil)))), ?_⟩
 refine f_call rfl (row_c (some ⟨b31, 0, none⟩) 2 2 _) (x_call1 en_43 rfl rfl) ?_
 rintro _ w ⟨rfl, hE⟩
 replace hF := hF.ext hE
 clear hE
 refine ⟨hF.sub (.cons _ (.cons _ (.cons _ (.cons_cons _ .slnil)))), ?_⟩
 refine f_call rfl (of_c [120] _) (x_call1 en_25 rfl rfl) ?_
 rintro _ w ⟨rfl, hE⟩
 replace hF := hF.ext hE
 clear hE
 refine ⟨hF.sub (.cons _ (.cons _ (.cons _ (.cons_cons _ .slnil)))), ?_⟩
 refine f_new rfl (v := fun b => .slice (some ⟨b, 0, none⟩) 2 2) hF (x_buildSlice (cs := #[.int .i64 (5), .string (bs ([])), .slice (none) (0) (0), .slice (some ⟨b31, 0, none⟩) (2) (2), .int .i64 (4), .string (bs ([120])), .slice (none) (0) (0), .slice (none) (0) (0)]) Tryz.underlying23 Tryz.sizeOf25 Tryz.zeroValue25 (by decide) (by decide) (by kernel_rfl)) ?_
 clear hF; rintro b32 w hb32 hF -
 refine ⟨hF.sub (.cons _ (.cons _ (.cons _ (.cons _ (.cons_cons _ .slnil))))), ?_⟩
 refine f_call rfl (map_c (some ⟨b19, 0, none⟩) 2 2 (some ⟨b32, 0, none⟩) 2 2 _) (x_call2 en_49 rfl rfl rfl) ?_
 rintro _ w ⟨rfl, hE⟩
 replace hF := hF.ext hE
 clear hE
 refine ⟨hF.sub (.cons _ (.cons _ (.cons _ (.cons _ (.cons_cons _ .slnil))))), ?_⟩
 refine f_storez rfl 2 (l := [.int .i64 (6), .string (bs ([])), .slice (some ⟨b19, 0, none⟩) (2) (2), .slice (some ⟨b32, 0, none⟩) (2) (2)]) (cs' := #[.int .i64 (6), .string (bs ([])), .slice (some ⟨b19, 0, none⟩) (2) (2), .slice (some ⟨b32, 0, none⟩) (2) (2)]) hF Tryz.sizeOf25 rfl (v := .agg #[.int .i64 (6), .string (bs ([])), .slice (some ⟨b19, 0, none⟩) (2) (2), .slice (some ⟨b32, 0, none⟩) (2) (2)]) rfl rfl (by simp [one]) rfl (Nat.le_of_ble_eq_true rfl) rfl ?_
 clear hF; rintro w hF -
 replace hF : FR w0 [] [(b32, .cells #[.int .i64 (5), .string (bs ([])), .slice (none) (0) (0), .slice (some ⟨b31, 0, none⟩) (2) (2), .int .i64 (4), .string (bs ([120])), .slice (none) (0) (0), .slice (none) (0) (0)] 25), (b31, .cells #[.int .i64 (3), .string (bs ([49])), .slice (none) (0) (0), .slice (none) (0) (0), .int .i64 (1), .string (bs ([])), .slice (none) (0) (0), .slice (none) (0) (0)] 25), (b30, .cells #[.int .i64 (6), .string (bs ([])), .slice (some ⟨b19, 0, none⟩) (2) (2), .slice (some ⟨b32, 0, none⟩) (2) (2)] 25), (b19, .cells #[.string (bs ([98])), .string (bs ([97]))] 9), (b1, .cells #[.int .i64 (1), .string (bs ([])), .slice (none) (0) (0), .slice (none) (0) (0)] 25)] w := hF
 refine d_nil ?_
 have hR : RX w0 [] w [treeD rwT] [.int .i64 (5), .string (bs ([])), .slice (none) (0) (0), .slice (some ⟨b31, 0, none⟩) (2) (2)] := RX.tree ⟨by omega, by omega⟩ (by simp) RX.nils (hF.rowX 1 rfl (RX.append (ds := [_]) (RX.num _ (by simp)) (RX.tree ⟨by omega, by omega⟩ (by simp) RX.nils RX.nils)) (by simp) rfl (by omega))
 have hZ : RX w0 [] w [treeD wT] [.int .i64 (6), .string (bs ([])), .slice (some ⟨b19, 0, none⟩) (2) (2), .slice (some ⟨b32, 0, none⟩) (2) (2)] := RX.tree ⟨by omega, by omega⟩ (by simp) (hF.rowX 3 rfl (RX.strs (ks := [[98], [97]]) (by simp)) (by simp) rfl (by omega)) (hF.rowX 0 rfl (RX.append (ds := [_]) hR (RX.str _ (by simp))) (by simp) rfl (by omega))
 exact e_inv ⟨(b30), ([.int .i64 (6), .string (bs ([])), .slice (some ⟨b19, 0, none⟩) (2) (2), .slice (some ⟨b32, 0, none⟩) (2) (2)]), (rfl), (by simp [one]), (hZ), ⟨rfl, trivial⟩, (((((hF.front 4 rfl).front 3 rfl).erase 2).erase 2).erase 2)⟩
 refine d_alt ?_ ?_
 refine f_new rfl (v := fun b => .slice (some ⟨b, 0, none⟩) 2 2) hF (x_buildSlice (cs := #[.int .i64 (3), .string (bs ([49])), .slice (none) (0) (0), .slice (none) (0) (0), .int .i64 (1), .string (bs ([])), .slice (none) (0) (0), .slice (none) (0) (0)]) Tryz.underlying23 Tryz.sizeOf25 Tryz.zeroValue25 (by decide) (by decide) (by kernel_rfl)) ?_
 clear hF; rintro b33 w hb33 hF -
 refine ⟨hF.sub (.cons _ (.cons_cons _ .slnil)), ?_⟩
 refine d_alt ?_ ?_
 refine f_new rfl (v := fun b => .slice (some ⟨b, 0, none⟩) 2 2) hF (x_buildSlice (cs := #[.string (bs ([98])), .string (bs ([97]))]) Tryz.underlying22 Tryz.sizeOf9 Tryz.zeroValue9 (by decide) (by decide) (by kernel_rfl)) ?_
 clear hF; rintro b34 w hb34 hF -
 refine ⟨hF.sub (.cons _ (.cons _ (.cons_cons _ .slnil))), ?_⟩
 refine d_alt ?_ ?_
 refine f_call rfl (row_c (some ⟨b33, 0, none⟩) 2 2 _) (x_call1 en_43 rfl rfl) ?_
 rintro _ w ⟨rfl, hE⟩
 replace hF := hF.ext hE
 clear hE
 refine ⟨hF.sub (.cons _ (.cons _ (.cons_cons _ .slnil))), ?_⟩
 refine d_alt ?_ ?_
 refine f_call rfl (of_c [120] _) (x_call1 en_25 rfl rfl) ?_
 rintro _ w ⟨rfl, hE⟩
 replace hF := hF.ext hE
 clear hE
 refine ⟨hF.sub (.cons _ (.cons _ (.cons_cons _ .slnil))), ?_⟩
 refine d_alt ?_ ?_
 refine f_new rfl (v := fun b => .slice (some ⟨b, 0, none⟩) 2 2) hF (x_buildSlice (cs := #[.int .i64 (5), .string (bs ([])), .slice (none) (0) (0), .slice (some ⟨b33, 0, none⟩) (2) (2), .int .i64 (4), .string (bs ([120])), .slice (none) (0) (0), .slice (none) (0) (0)]) Tryz.underlying23 Tryz.sizeOf25 Tryz.zeroValue25 (by decide) (by decide) (by kernel_rfl)) ?_
 clear hF; rintro b35 w hb35 hF -
 refine ⟨hF.sub (.cons _ (.cons _ (.cons _ (.cons_cons _ .slnil)))), ?_⟩
 refine d_alt ?_ ?_
 refine f_call rfl (map_c (some ⟨b34, 0, none⟩) 2 2 (some ⟨b35, 0, none⟩) 2 2 _) (x_call2 en_49 rfl rfl rfl) ?_
 rintro _ w ⟨rfl, hE⟩
 replace hF := hF.ext hE
 clear hE
 refine ⟨hF.sub (.cons _ (.cons _ (.cons _ (.cons_cons _ .slnil)))), ?_⟩
 refine f_new rfl (v := fun b => .pointer (some ⟨b, 0, none⟩)) (o := .cells #[.int .i64 (0), .string (bs ([])), .slice (none) (0) (0), .slice (none) (0) (0)] 25) hF (x_alloc Tryz.zeroValue25) ?_
 clear hF; rintro b36 w hb36 hF -
 refine ⟨hF.sub (.cons _ (.cons _ (.cons _ (.cons _ (.cons_cons _ .slnil))))), ?_⟩
 refine f_storez rfl 0 (l := [.int .i64 (6), .string (bs ([])), .slice (some ⟨b34, 0, none⟩) (2) (2), .slice (some ⟨b35, 0, none⟩) (2) (2)]) (cs' := #[.int .i64 (6), .string (bs ([])), .slice (some ⟨b34, 0, none⟩) (2) (2), .slice (some ⟨b35, 0, none⟩) (2) (2)]) hF Tryz.sizeOf25 rfl (v := .agg #[.int .i64 (6), .string (bs ([])), .slice (some ⟨b34, 0, none⟩) (2) (2), .slice (some ⟨b35, 0, none⟩) (2) (2)]) rfl rfl (by simp [one]) rfl (Nat.le_of_ble_eq_true rfl) rfl ?_
 clear hF; rintro w hF -
 replace hF : FR w0 [] [(b36, .cells #[.int .i64 (6), .string (bs ([])), .slice (some ⟨b34, 0, none⟩) (2) (2), .slice (some ⟨b35, 0, none⟩) (2) (2)] 25), (b35, .cells #[.int .i64 (5), .string (bs ([])), .slice (none) (0) (0), .slice (some ⟨b33, 0, none⟩) (2) (2), .int .i64 (4), .string (bs ([120])), .slice (none) (0) (0), .slice (none) (0) (0)] 25), (b34, .cells #[.string (bs ([98])), .string (bs ([97]))] 9), (b33, .cells #[.int .i64 (3), .string (bs ([49])), .slice (none) (0) (0), .slice (none) (0) (0), .int .i64 (1), .string (bs ([])), .slice (none) (0) (0), .slice (none) (0) (0)] 25), (b1, .cells #[.int .i64 (1), .string (bs ([])), .slice (none) (0) (0), .slice (none) (0) (0)] 25)] w := hF
 refine d_nil ?_
 have hR : RX w0 [] w [treeD rwT] [.int .i64 (5), .string (bs ([])), .slice (none) (0) (0), .slice (some ⟨b33, 0, none⟩) (2) (2)] := RX.tree ⟨by omega, by omega⟩ (by simp) RX.nils (hF.rowX 3 rfl (RX.append (ds := [_]) (RX.num _ (by simp)) (RX.tree ⟨by omega, by omega⟩ (by simp) RX.nils RX.nils)) (by simp) rfl (by omega))
 have hZ : RX w0 [] w [treeD wT] [.int .i64 (6), .string (bs ([])), .slice (some ⟨b34, 0, none⟩) (2) (2), .slice (some ⟨b35, 0, none⟩) (2) (2)] := RX.tree ⟨by omega, by omega⟩ (by simp) (hF.rowX 2 rfl (RX.strs (ks := [[98], [97]]) (by simp)) (by simp) rfl (by omega)) (hF.rowX 1 rfl (RX.append (ds := [_]) hR (RX.str _ (by simp))) (by simp) rfl (by omega))
 exact e_inv ⟨(b36), ([.int .i64 (6), .string (bs ([])), .slice (some ⟨b34, 0, none⟩) (2) (2), .slice (some ⟨b35, 0, none⟩) (2) (2)]), (rfl), (by simp [one]), (hZ), ⟨rfl, trivial⟩, (((((hF.front 4 rfl).front 1 rfl).erase 2).erase 2).erase 2)⟩
 refine f_new rfl (v := fun b => .pointer (some ⟨b, 0, none⟩)) (o := .cells #[.int .i64 (0), .string (bs ([])), .slice (none) (0) (0), .slice (none) (0) (0)] 25) hF (x_alloc Tryz.zeroValue25) ?_
 clear hF; rintro b37 w hb37 hF -
 refine ⟨hF.sub (.cons _ (.cons _ (.cons _ (.cons _ (.cons_cons _ .slnil))))), ?_⟩
 refine f_call rfl (map_c (some ⟨b34, 0, none⟩) 2 2 (some ⟨b35, 0, none⟩) 2 2 _) (x_call2 en_49 rfl rfl rfl) ?_
 rintro _ w ⟨rfl, hE⟩
 replace hF := hF.ext hE
 clear hE
 refine ⟨hF.sub (.cons _ (.cons _ (.cons _ (.cons _ (.cons_cons _ .slnil))))), ?_⟩
 refine f_storez rfl 0 (l := [.int .i64 (6), .string (bs ([])), .slice (some ⟨b34, 0, none⟩) (2) (2), .slice (some ⟨b35, 0, none⟩) (2) (2)]) (cs' := #[.int .i64 (6), .string (bs ([])), .slice (some ⟨b34, 0, none⟩) (2) (2), .slice (some ⟨b35, 0, none⟩) (2) (2)]) hF Tryz.sizeOf25 rfl (v := .agg #[.int .i64 (6), .string (bs ([])), .slice (some ⟨b34, 0, none⟩) (2) (2), .slice (some ⟨b35, 0, none⟩) (2) (2)]) rfl rfl (by simp [one]) rfl (Nat.le_of_ble_eq_true rfl) rfl ?_
 clear hF; rintro w hF -
 replace hF : FR w0 [] [(b37, .cells #[.int .i64 (6), .string (bs ([])), .slice (some ⟨b34, 0, none⟩) (2) (2), .slice (some ⟨b35, 0, none⟩) (2) (2)] 25), (b35, .cells #[.int .i64 (5), .string (bs ([])), .slice (none) (0) (0), .slice (some ⟨b33, 0, none⟩) (2) (2), .int .i64 (4), .string (bs ([120])), .slice (none) (0) (0), .slice (none) (0) (0)] 25), (b34, .cells #[.string (bs ([98])), .string (bs ([97]))] 9), (b33, .cells #[.int .i64 (3), .string (bs ([49])), .slice (none) (0) (0), .slice (none) (0) (0), .int .i64 (1), .string (bs ([])), .slice (none) (0) (0), .slice (none) (0) (0)] 25), (b1, .cells #[.int .i64 (1), .string (bs ([])), .slice (none) (0) (0), .slice (none) (0) (0)] 25)] w := hF
 refine d_nil ?_
 have hR : RX w0 [] w [treeD rwT] [.int .i64 (5), .string (bs ([])), .slice (none) (0) (0), .slice (some ⟨b33, 0, none⟩) (2) (2)] := RX.tree ⟨by omega, by omega⟩ (by simp) RX.nils (hF.rowX 3 rfl (RX.append (ds := [_]) (RX.num _ (by simp)) (RX.tree ⟨by omega, by omega⟩ (by simp) RX.nils RX.nils)) (by simp) rfl (by omega))
 have hZ : RX w0 [] w [treeD wT] [.int .i64 (6), .string (bs ([])), .slice (some ⟨b34, 0, none⟩) (2) (2), .slice (some ⟨b35, 0, none⟩) (2) (2)] := RX.tree ⟨by omega, by omega⟩ (by simp) (hF.rowX 2 rfl (RX.strs (ks := [[98], [97]]) (by simp)) (by simp) rfl (by omega)) (hF.rowX 1 rfl (RX.append (ds := [_]) hR (RX.str _ (by simp))) (by simp) rfl (by omega))
 exact e_inv ⟨(b37), ([.int .i64 (6), .string (bs ([])), .slice (some ⟨b34, 0, none⟩) (2) (2), .slice (some ⟨b35, 0, none⟩) (2) (2)]), (rfl), (by simp [one]), (hZ), ⟨rfl, trivial⟩, (((((hF.front 4 rfl).front 1 rfl).erase 2).erase 2).erase 2)⟩
 refine f_new rfl (v := fun b => .pointer (some ⟨b, 0, none⟩)) (o := .cells #[.int .i64 (0), .string (bs ([])), .slice (none) (0) (0), .slice (none) (0) (0)] 25) hF (x_alloc Tryz.zeroValue25) ?_
 clear hF; rintro b38 w hb38 hF -
 refine ⟨hF.sub (.cons _ (.cons _ (.cons _ (.cons_cons _ .slnil)))), ?_⟩
 refine f_new rfl (v := fun b => .slice (some ⟨b, 0, none⟩) 2 2) hF (x_buildSlice (cs := #[.int .i64 (5), .string (bs ([])), .slice (none) (0) (0), .slice (some ⟨b33, 0, none⟩) (2) (2), .int .i64 (4), .string (bs ([120])), .slice (none) (0) (0), .slice (none) (0) (0)]) Tryz.underlying23 Tryz.sizeOf25 Tryz.zeroValue25 (by decide) (by decide) (by kernel_rfl)) ?_
 clear hF; rintro b39 w hb39 hF -
 refine ⟨hF.sub (.cons _ (.cons _ (.cons _ (.cons _ (.cons_cons _ .slnil))))), ?_⟩
 refine f_call rfl (map_c (some ⟨b34, 0, none⟩) 2 2 (some ⟨b39, 0, none⟩) 2 2 _) (x_call2 en_49 rfl rfl rfl) ?_
 rintro _ w ⟨rfl, hE⟩
 replace hF := hF.ext hE
 clear hE
 refine ⟨hF.sub (.cons _ (.cons _ (.cons _ (.cons _ (.cons_cons _ .slnil))))), ?_⟩
 refine f_storez rfl 1 (l := [.int .i64 (6), .string (bs ([])), .slice (some ⟨b34, 0, none⟩) (2) (2), .slice (some ⟨b39, 0, none⟩) (2) (2)]) (cs' := #[.int .i64 (6), .string (bs ([])), .slice (some ⟨b34, 0, none⟩) (2) (2), .slice (some ⟨b39, 0, none⟩) (2) (2)]) hF Tryz.sizeOf25 rfl (v := .agg #[.int .i64 (6), .string (bs ([])), .slice (some ⟨b34, 0, none⟩) (2) (2), .slice (some ⟨b39, 0, none⟩) (2) (2)]) rfl rfl (by simp [one]) rfl (Nat.le_of_ble_eq_true rfl) rfl ?_
 clear hF; rintro w hF -
 replace hF : FR w0 [] [(b39, .cells #[.int .i64 (5), .string (bs ([])), .slice (none) (0) (0), .slice (some ⟨b33, 0, none⟩) (2) (2), .int .i64 (4), .string (bs ([120])), .slice (none) (0) (0), .slice (none) (0) (0)] 25), (b38, .cells #[.int .i64 (6), .string (bs ([])), .slice (some ⟨b34, 0, none⟩) (2) (2), .slice (some ⟨b39, 0, none⟩) (2) (2)] 25), (b34, .cells #[.string (bs ([98])), .string (bs ([97]))] 9), (b33, .cells #[.int .i64 (3), .string (bs ([49])), .slice (none) (0) (0), .slice (none) (0) (0), .int .i64 (1), .string (bs ([])), .slice (none) (0) (0), .slice (none) (0) (0)] 25), (b1, .cells #[.int .i64 (1), .string (bs ([])), .slice (none) (0) (0), .slice (none) (0) (0)] 25)] w := hF
 refine d_nil ?_
 have hR : RX w0 [] w [treeD rwT] [.int .i64 (5), .string (bs ([])), .slice (none) (0) (0), .slice (some ⟨b33, 0, none⟩) (2) (2)] := RX.tree ⟨by omega, by omega⟩ (by simp) RX.nils (hF.rowX 3 rfl (RX.append (ds := [_]) (RX.num _ (by simp)) (RX.tree ⟨by omega, by omega⟩ (by simp) RX.nils RX.nils)) (by simp) rfl (by omega))
 have hZ : RX w0 [] w [treeD wT] [.int .i64 (6), .string (bs ([])), .slice (some ⟨b34, 0, none⟩) (2) (2), .slice (some ⟨b39, 0, none⟩) (2) (2)] := RX.tree ⟨by omega, by omega⟩ (by simp) (hF.rowX 2 rfl (RX.strs (ks := [[98], [97]]) (by simp)) (by simp) rfl (by omega)) (hF.rowX 0 rfl (RX.append (ds := [_]) hR (RX.str _ (by simp))) (by simp) rfl (by omega))
 exact e_inv ⟨(b38), ([.int .i64 (6), .string (bs ([])), .slice (some ⟨b34, 0, none⟩) (2) (2), .slice (some ⟨b39, 0, none⟩) (2) (2)]), (rfl), (by simp [one]), (hZ), ⟨rfl, trivial⟩, (((((hF.front 4 rfl).front 2 rfl).erase 2).erase 2).erase 2)⟩
 refine f_new rfl (v := fun b => .pointer (some ⟨b, 0, none⟩)) (o := .cells #[.int .i64 (0), .string (bs ([])), .slice (none) (0) (0), .slice (none) (0) (0)] 25) hF (x_alloc Tryz.zeroValue25) ?_
 clear hF; rintro b40 w hb40 hF -
 refine ⟨hF.sub (.cons _ (.cons _ (.cons _ (.cons_cons _ .slnil)))), ?_⟩
 refine f_call rfl (of_c [120] _) (x_call1 en_25 rfl rfl) ?_
 rintro _ w ⟨rfl, hE⟩
 replace hF := hF.ext hE
 clear hE
 refine ⟨hF.sub (.cons _ (.cons _ (.cons _ (.cons_cons _ .slnil)))), ?_⟩
 refine f_new rfl (v := fun b => .slice (some ⟨b, 0, none⟩) 2 2) hF (x_buildSlice (cs := #[.int .i64 (5), .string (bs ([])), .slice (none) (0) (0), .slice (some ⟨b33, 0, none⟩) (2) (2), .int .i64 (4), .string (bs ([120])), .slice (none) (0) (0), .slice (none) (0) (0)]) Tryz.underlying23 Tryz.sizeOf25 Tryz.zeroValue25 (by decide) (by decide) (by kernel_rfl)) ?_
 clear hF; rintro b41 w hb41 hF -
 refine ⟨hF.sub (.cons _ (.cons _ (.cons _ (.cons _ (.cons_cons _ .slnil))))), ?_⟩
 refine f_call rfl (map_c (some ⟨b34, 0, none⟩) 2 2 (some ⟨b41, 0, none⟩) 2 2 _) (x_call2 en_49 rfl rfl rfl) ?_
 rintro _ w ⟨rfl, hE⟩
 replace hF := hF.ext hE
 clear hE
 refine ⟨hF.sub (.cons _ (.cons _ (.cons _ (.cons _ (.cons_cons _ .slnil))))), ?_⟩
 refine f_storez rfl 1 (l := [.int .i64 (6), .string (bs ([])), .slice (some ⟨b34, 0, none⟩) (2) (2), .slice (some ⟨b41, 0, none⟩) (2) (2)]) (cs' := #[.int .i64 (6), .string (bs ([])), .slice (some ⟨b34, 0, none⟩) (2) (2), .slice (some ⟨b41, 0, none⟩) (2) (2)]) hF Tryz.sizeOf25 rfl (v := .agg #[.int .i64 (6), .string (bs ([])), .slice (some ⟨b34, 0, none⟩) (2) (2), .slice (some ⟨b41, 0, none⟩) (2) (2)]) rfl rfl (by simp [one]) rfl (Nat.le_of_ble_eq_true rfl) rfl ?_
 clear hF; rintro w hF -
 replace hF : FR w0 [] [(b41, .cells #[.int .i64 (5), .string (bs ([])), .slice (none) (0) (0), .slice (some ⟨b33, 0, none⟩) (2) (2), .int .i64 (4), .string (bs ([120])), .slice (none) (0) (0), .slice (none) (0) (0)] 25), (b40, .cells #[.int .i64 (6), .string (bs ([])), .slice (some ⟨b34, 0, none⟩) (2) (2), .slice (some ⟨b41, 0, none⟩) (2) (2)] 25), (b34, .cells #[.string (bs ([98])), .string (bs ([97]))] 9), (b33, .cells #[.int .i64 (3), .string (bs ([49])), .slice (none) (0) (0), .slice (none) (0) (0), .int .i64 (1), .string (bs ([])), .slice (none) (0) (0), .slice (none) (0) (0)] 25), (b1, .cells #[.int .i64 (1), .string (bs ([])), .slice (none) (0) (0), .slice (none) (0) (0)] 25)] w := hF
 refine d_nil ?_
 have hR : RX w0 [] w [treeD rwT] [.int .i64 (5), .string (bs ([])), .slice (none) (0) (0), .slice (some ⟨b33, 0, none⟩) (2) (2)] := RX.tree ⟨by omega, by omega⟩ (by simp) RX.nils (hF.rowX 3 rfl (RX.append (ds := [_]) (RX.num _ (by simp)) (RX.tree ⟨by omega, by omega⟩ (by simp) RX.nils RX.nils)) (by simp) rfl (by omega))
 have hZ : RX w0 [] w [treeD wT] [.int .i64 (6), .string (bs ([])), .slice (some ⟨b34, 0, none⟩) (2) (2), .slice (some ⟨b41, 0, none⟩) (2) (2)] := RX.tree ⟨by omega, by omega⟩ (by simp) (hF.rowX 2 rfl (RX.strs (ks := [[98], [97]]) (by simp)) (by simp) rfl (by omega)) (hF.rowX 0 rfl (RX.append (ds := [_]) hR (RX.str _ (by simp))) (by simp) rfl (by omega))
 exact e_inv ⟨(b40), ([.int .i64 (6), .string (bs ([])), .slice (some ⟨b34, 0, none⟩) (2) (2), .slice (some ⟨b41, 0, none⟩) (2) (2)]), (rfl), (by simp [one]), (hZ), ⟨rfl, trivial⟩, (((((hF.front 4 rfl).front 2 rfl).erase 2).erase 2).erase 2)⟩
 refine f_new rfl (v := fun b => .pointer (some ⟨b, 0, none⟩)) (o := .cells #[.int .i64 (0), .string (bs ([])), .slice (none) (0) (0), .slice (none) (0) (0)] 25) hF (x_alloc Tryz.zeroValue25) ?_
 clear hF; rintro b42 w hb42 hF -
 refine ⟨hF.sub (.cons _ (.cons _ (.cons _ (.cons_cons _ .slnil)))), ?_⟩
 refine f_call rfl (row_c (some ⟨b33, 0, none⟩) 2 2 _) (x_call1 en_43 rfl rfl) ?_
 rintro _ w ⟨rfl, hE⟩
 replace hF := hF.ext hE
 clear hE
 refine ⟨hF.sub (.cons _ (.cons _ (.cons _ (.cons_cons _ .slnil)))), ?_⟩
 refine f_call rfl (of_c [120] _) (x_call1 en_25 rfl rfl) ?_
 rintro _ w ⟨rfl, hE⟩
 replace hF := hF.ext hE
 clear hE
 refine ⟨hF.sub (.cons _ (.cons _ (.cons _ (.cons_cons _ .slnil)))), ?_⟩
 refine f_new rfl (v := fun b => .slice (some ⟨b, 0, none⟩) 2 2) hF (x_buildSlice (cs := #[.int .i64 (5), .string (bs ([])), .slice (none) (0) (0), .slice (some ⟨b33, 0, none⟩) (2) (2), .int .i64 (4), .string (bs ([120])), .slice (none) (0) (0), .slice (none) (0) (0)]) Tryz.underlying23 Tryz.sizeOf25 Tryz.zeroValue25 (by decide) (by decide) (by kernel_rfl)) ?_
 clear hF; rintro b43 w hb43 hF -
 refine ⟨hF.sub (.cons _ (.cons _ (.cons _ (.cons _ (.cons_cons _ .slnil))))), ?_⟩
 refine f_call rfl (map_c (some ⟨b34, 0, none⟩) 2 2 (some ⟨b43, 0, none⟩) 2 2 _) (x_call2 en_49 rfl rfl rfl) ?_
 rintro _ w ⟨rfl, hE⟩
 replace hF := hF.ext hE
 clear hE
 refine ⟨hF.sub (.cons _ (.cons _ (.cons _ (.cons _ (.cons_cons _ .slnil))))), ?_⟩
 refine f_storez rfl 1 (l := [.int .i64 (6), .string (bs ([])), .slice (some ⟨b34, 0, none⟩) (2) (2), .slice (some ⟨b43, 0, none⟩) (2) (2)]) (cs' := #[.int .i64 (6), .string (bs ([])), .slice (some ⟨b34, 0, none⟩) (2) (2), .slice (some ⟨b43, 0, none⟩) (2) (2)]) hF Tryz.sizeOf25 rfl (v := .agg #[.int .i64 (6), .string (bs ([])), .slice (some ⟨b34, 0, none⟩) (2) (2), .slice (some ⟨b43, 0, none⟩) (2) (2)]) rfl rfl (by simp [one]) rfl (Nat.le_of_ble_eq_true rfl) rfl ?_
 clear hF; rintro w hF -
 replace hF : FR w0 [] [(b43, .cells #[.int .i64 (5), .string (bs ([])), .slice (none) (0) (0), .slice (some ⟨b33, 0, none⟩) (2) (2), .int .i64 (4), .string (bs ([120])), .slice (none) (0) (0), .slice (none) (0) (0)] 25), (b42, .cells #[.int .i64 (6), .string (bs ([])), .slice (some ⟨b34, 0, none⟩) (2) (2), .slice (some ⟨b43, 0, none⟩) (2) (2)] 25), (b34, .cells #[.string (bs ([98])), .string (bs ([97]))] 9), (b33, .cells #[.int .i64 (3), .string (bs ([49])), .slice (none) (0) (0), .slice (none) (0) (0), .int .i64 (1), .string (bs ([])), .slice (none) (0) (0), .slice (none) (0) (0)] 25), (b1, .cells #[.int .i64 (1), .string (bs ([])), .slice (none) (0) (0), .slice (none) (0) (0)] 25)] w := hF
 refine d_nil ?_
 have hR : RX w0 [] w [treeD rwT] [.int .i64 (5), .string (bs ([])), .slice (none) (0) (0), .slice (some ⟨b33, 0, none⟩) (2) (2)] := RX.tree ⟨by omega, by omega⟩ (by simp) RX.nils (hF.rowX 3 rfl (RX.append (ds := [_]) (RX.num _ (by simp)) (RX.tree ⟨by omega, by omega⟩ (by simp) RX.nils RX.nils)) (by simp) rfl (by omega))
 have hZ : RX w0 [] w [treeD wT] [.int .i64 (6), .string (bs ([])), .slice (some ⟨b34, 0, none⟩) (2) (2), .slice (some ⟨b43, 0, none⟩) (2) (2)] := RX.tree ⟨by omega, by omega⟩ (by simp) (hF.rowX 2 rfl (RX.strs (ks := [[98], [97]]) (by simp)) (by simp) rfl (by omega)) (hF.rowX 0 rfl (RX.append (ds := [_]) hR (RX.str _ (by simp))) (by simp) rfl (by omega))
 exact e_inv ⟨(b42), ([.int .i64 (6), .string (bs ([])), .slice (some ⟨b34, 0, none⟩) (2) (2), .slice (some ⟨b43, 0, none⟩) (2) (2)]), (rfl), (by simp [one]), (hZ), ⟨rfl, trivial⟩, (((((hF.front 4 rfl).front 2 rfl).erase 2).erase 2).erase 2)⟩
 refine d_alt ?_ ?_
 refine f_call rfl (row_c (some ⟨b33, 0, none⟩) 2 2 _) (x_call1 en_43 rfl rfl) ?_
 rintro _ w ⟨rfl, hE⟩
 replace hF := hF.ext hE
 clear hE
 refine ⟨hF.sub (.cons _ (.cons_cons _ .slnil)), ?_⟩
 refine d_alt ?_ ?_
 refine f_new rfl (v := fun b => .slice (some ⟨b, 0, none⟩) 2 2) hF (x_buildSlice (cs := #[.string (bs ([98])), .string (bs ([97]))]) Tryz.underlying22 Tryz.sizeOf9 Tryz.zeroValue9 (by decide) (by decide) (by kernel_rfl)) ?_
 clear hF; rintro b44 w hb44 hF -
 refine ⟨hF.sub (.cons _ (.cons _ (.cons_cons _ .slnil))), ?_⟩
 refine d_alt ?_ ?_
 refine f_call rfl (of_c [120] _) (x_call1 en_25 rfl rfl) ?_
 rintro _ w ⟨rfl, hE⟩
 replace hF := hF.ext hE
 clear hE
 refine ⟨hF.sub (.cons _ (.cons _ (.cons_cons _ .slnil))), ?_⟩
 refine d_alt ?_ ?_
 refine f_new rfl (v := fun b => .slice (some ⟨b, 0, none⟩) 2 2) hF (x_buildSlice (cs := #[.int .i64 (5), .string (bs ([])), .slice (none) (0) (0), .slice (some ⟨b33, 0, none⟩) (2) (2), .int .i64 (4), .string (bs ([120])), .slice (none) (0) (0), .slice (none) (0) (0)]) Tryz.underlying23 Tryz.sizeOf25 Tryz.zeroValue25 (by decide) (by decide) (by kernel_rfl)) ?_
 clear hF; rintro b45 w hb45 hF -
 refine ⟨hF.sub (.cons _ (.cons _ (.cons _ (.cons_cons _ .slnil)))), ?_⟩
 refine d_alt ?_ ?_
 refine f_call rfl (map_c (some ⟨b44, 0, none⟩) 2 2 (some ⟨b45, 0, none⟩) 2 2 _) (x_call2 en_49 rfl rfl rfl) ?_
 rintro _ w ⟨rfl, hE⟩
 replace hF := hF.ext hE
 clear hE
 refine ⟨hF.sub (.cons _ (.cons _ (.cons _ (.cons_cons _ .slnil)))), ?_⟩
 refine f_new rfl (v := fun b => .pointer (some ⟨b, 0, none⟩)) (o := .cells #[.int .i64 (0), .string (bs ([])), .slice (none) (0) (0), .slice (none) (0) (0)] 25) hF (x_alloc Tryz.zeroValue25) ?_
 clear hF; rintro b46 w hb46 hF -
 refine ⟨hF.sub (.cons _ (.cons _ (.cons _ (.cons _ (.cons_cons _ .slnil))))), ?_⟩
 refine f_storez rfl 0 (l := [.int .i64 (6), .string (bs ([])), .slice (some ⟨b44, 0, none⟩) (2) (2), .slice (some ⟨b45, 0, none⟩) (2) (2)]) (cs' := #[.int .i64 (6), .string (bs ([])), .slice (some ⟨b44, 0, none⟩) (2) (2), .slice (some ⟨b45, 0, none⟩) (2) (2)]) hF Tryz.sizeOf25 rfl (v := .agg #[.int .i64 (6), .string (bs ([])), .slice (some ⟨b44, 0, none⟩) (2) (2), .slice (some ⟨b45, 0, none⟩) (2) (2)]) rfl rfl (by simp [one]) rfl (Nat.le_of_ble_eq_true rfl) rfl ?_
 clear hF; rintro w hF -
 replace hF : FR w0 [] [(b46, .cells #[.int .i64 (6), .string (bs ([])), .slice (some ⟨b44, 0, none⟩) (2) (2), .slice (some ⟨b45, 0, none⟩) (2) (2)] 25), (b45, .cells #[.int .i64 (5), .string (bs ([])), .slice (none) (0) (0), .slice (some ⟨b33, 0, none⟩) (2) (2), .int .i64 (4), .string (bs ([120])), .slice (none) (0) (0), .slice (none) (0) (0)] 25), (b44, .cells #[.string (bs ([98])), .string (bs ([97]))] 9), (b33, .cells #[.int .i64 (3), .string (bs ([49])), .slice (none) (0) (0), .slice (none) (0) (0), .int .i64 (1), .string (bs ([])), .slice (none) (0) (0), .slice (none) (0) (0)] 25), (b1, .cells #[.int .i64 (1), .string (bs ([])), .slice (none) (0) (0), .slice (none) (0) (0)] 25)] w := hF
 refine d_nil ?_
 have hR : RX w0 [] w [treeD rwT] [.int .i64 (5), .string (bs ([])), .slice (none) (0) (0), .slice (some ⟨b33, 0, none⟩) (2) (2)] := RX.tree ⟨by omega, by omega⟩ (by simp) RX.nils (hF.rowX 3 rfl (RX.append (ds := [_]) (RX.num _ (by simp)) (RX.tree ⟨by omega, by omega⟩ (by simp) RX.nils RX.nils)) (by simp) rfl (by omega))
 have hZ : RX w0 [] w [treeD wT] [.int .i64 (6), .string (bs ([])), .slice (some ⟨b44, 0, none⟩) (2) (2), .slice (some ⟨b45, 0, none⟩) (2) (2)] := RX.tree ⟨by omega, by omega⟩ (by simp) (hF.rowX 2 rfl (RX.strs (ks := [[98], [97]]) (by simp)) (by simp) rfl (by omega)) (hF.rowX 1 rfl (RX.append (ds := [_]) hR (RX.str _ (by simp))) (by simp) rfl (by omega))
 exact e_inv ⟨(b46), ([.int .i64 (6), .string (bs ([])), .slice (some ⟨b44, 0, none⟩) (2) (2), .slice (some ⟨b45, 0, none⟩) (2) (2)]), (rfl), (by simp [one]), (hZ), ⟨rfl, trivial⟩, (((((hF.front 4 rfl).front 1 rfl).erase 2).erase 2).erase 2)⟩
 refine f_new rfl (v := fun b => .pointer (some ⟨b, 0, none⟩)) (o := .cells #[.int .i64 (0), .string (bs ([])), .slice (none) (0) (0), .slice (none) (0) (0)] 25) hF (x_alloc Tryz.zeroValue25) ?_
 clear hF; rintro b47 w hb47 hF -
 refine ⟨hF.sub (.cons _ (.cons _ (.cons _ (.cons _ (.cons_cons _ .slnil))))), ?_⟩
 refine f_call rfl (map_c (some ⟨b44, 0, none⟩) 2 2 (some ⟨b45, 0, none⟩) 2 2 _) (x_call2 en_49 rfl rfl rfl) ?_
 rintro _ w ⟨rfl, hE⟩
 replace hF := hF.ext hE
 clear hE
 refine ⟨hF.sub (.cons _ (.cons _ (.cons _ (.cons _ (.cons_cons _ .slnil))))), ?_⟩
 refine f_storez rfl 0 (l := [.int .i64 (6), .string (bs ([])), .slice (some ⟨b44, 0, none⟩) (2) (2), .slice (some ⟨b45, 0, none⟩) (2) (2)]) (cs' := #[.int .i64 (6), .string (bs ([])), .slice (some ⟨b44, 0, none⟩) (2) (2), .slice (some ⟨b45, 0, none⟩) (2) (2)]) hF Tryz.sizeOf25 rfl (v := .agg #[.int .i64 (6), .string (bs ([])), .slice (some ⟨b44, 0, none⟩) (2) (2), .slice (some ⟨b45, 0, none⟩) (2) (2)]) rfl rfl (by simp [one]) rfl (Nat.le_of_ble_eq_true rfl) rfl ?_
 clear hF; rintro w hF -
 replace hF : FR w0 [] [(b47, .cells #[.int .i64 (6), .string (bs ([])), .slice (some ⟨b44, 0, none⟩) (2) (2), .slice (some ⟨b45, 0, none⟩) (2) (2)] 25), (b45, .cells #[.int .i64 (5), .string (bs ([])), .slice (none) (0) (0), .slice (some ⟨b33, 0, none⟩) (2) (2), .int .i64 (4), .string (bs ([120])), .slice (none) (0) (0), .slice (none) (0) (0)] 25), (b44, .cells #[.string (bs ([98])), .string (bs ([97]))] 9), (b33, .cells #[.int .i64 (3), .string (bs ([49])), .slice (none) (0) (0), .slice (none) (0) (0), .int .i64 (1), .string (bs ([])), .slice (none) (0) (0), .slice (none) (0) (0)] 25), (b1, .cells #[.int .i64 (1), .string (bs ([])), .slice (none) (0) (0), .slice (none) (0) (0)] 25)] w := hF
 refine d_nil ?_
 have hR : RX w0 [] w [treeD rwT] [.int .i64 (5), .string (bs ([])), .slice (none) (0) (0), .slice (some ⟨b33, 0, none⟩) (2) (2)] := RX.tree ⟨by omega, by omega⟩ (by simp) RX.nils (hF.rowX 3 rfl (RX.append (ds := [_]) (RX.num _ (by simp)) (RX.tree ⟨by omega, by omega⟩ (by simp) RX.nils RX.nils)) (by simp) rfl (by omega))
 have hZ : RX w0 [] w [treeD wT] [.int .i64 (6), .string (bs ([])), .slice (some ⟨b44, 0, none⟩) (2) (2), .slice (some ⟨b45, 0, none⟩) (2) (2)] := RX.tree ⟨by omega, by omega⟩ (by simp) (hF.rowX 2 rfl (RX.strs (ks := [[98], [97]]) (by simp)) (by simp) rfl (by omega)) (hF.rowX 1 rfl (RX.append (ds := [_]) hR (RX.str _ (by simp))) (by simp) rfl (by omega))
 exact e_inv ⟨(b47), ([.int .i64 (6), .string (bs ([])), .slice (some ⟨b44, 0, none⟩) (2) (2), .slice (some ⟨b45, 0, none⟩) (2) (2)]), (rfl), (by simp [one]), (hZ), ⟨rfl, trivial⟩, (((((hF.front 4 rfl).front 1 rfl).erase 2).erase 2).erase 2)⟩
 refine f_new rfl (v := fun b => .pointer (some ⟨b, 0, none⟩)) (o := .cells #[.int .i64 (0), .string (bs ([])), .slice (none) (0) (0), .slice (none) (0) (0)] 25) hF (x_alloc Tryz.zeroValue25) ?_
 clear hF; rintro b48 w hb48 hF -
 refine ⟨hF.sub (.cons _ (.cons _ (.cons _ (.cons_cons _ .slnil)))), ?_⟩
 refine f_new rfl (v := fun b => .slice (some ⟨b, 0, none⟩) 2 2) hF (x_buildSlice (cs := #[.int .i64 (5), .string (bs ([])), .slice (none) (0) (0), .slice (some ⟨b33, 0, none⟩) (2) (2), .int .i64 (4), .string (bs ([120])), .slice (none) (0) (0), .slice (none) (0) (0)]) Tryz.underlying23 Tryz.sizeOf25 Tryz.zeroValue25 (by decide) (by decide) (by kernel_rfl)) ?_
 clear hF; rintro b49 w hb49 hF -
 refine ⟨hF.sub (.cons _ (.cons _ (.cons _ (.cons _ (.cons_cons _ .slnil))))), ?_⟩
 refine f_call rfl (map_c (some ⟨b44, 0, none⟩) 2 2 (some ⟨b49, 0, none⟩) 2 2 _) (x_call2 en_49 rfl rfl rfl) ?_
 rintro _ w ⟨rfl, hE⟩
 replace hF := hF.ext hE
 clear hE
 refine ⟨hF.sub (.cons _ (.cons _ (.cons _ (.cons _ (.cons_cons _ .slnil))))), ?_⟩
 refine f_storez rfl 1 (l := [.int .i64 (6), .string (bs ([])), .slice (some ⟨b44, 0, none⟩) (2) (2), .slice (some ⟨b49, 0, none⟩) (2) (2)]) (cs' := #[.int .i64 (6), .string (bs ([])), .slice (some ⟨b44, 0, none⟩) (2) (2), .slice (some ⟨b49, 0, none⟩) (2) (2)]) hF Tryz.sizeOf25 rfl (v := .agg #[.int .i64 (6), .string (bs ([])), .slice (some ⟨b44, 0, none⟩) (2) (2), .slice (some ⟨b49, 0, none⟩) (2) (2)]) rfl rfl (by simp [one]) rfl (Nat.le_of_ble_eq_true rfl) rfl ?_
 clear hF; rintro w hF -
 replace hF : FR w0 [] [(b49, .cells #[.int .i64 (5), .string (bs ([])), .slice (none) (0) (0), .slice (some ⟨b33, 0, none⟩) (2) (2), .int .i64 (4), .string (bs ([120])), .slice (none) (0) (0), .slice (none) (0) (0)] 25), (b48, .cells #[.int .i64 (6), .string (bs ([])), .slice (some ⟨b44, 0, none⟩) (2) (2), .slice (some ⟨b49, 0, none⟩) (2) (2)] 25), (b44, .cells #[.string (bs ([98])), .string (bs ([97]))] 9), (b33, .cells #[.int .i64 (3), .string (bs ([49])), .slice (none) (0) (0), .slice (none) (0) (0), .int .i64 (1), .string (bs ([])), .slice (none) (0) (0), .slice (none) (0) (0)] 25), (b1, .cells #[.int .i64 (1), .string (bs ([])), .slice (none) (0) (0), .slice (none) (0) (0)] 25)] w := hF
 refine d_nil ?_
 have hR : RX w0 [] w [treeD rwT] [.int .i64 (5), .string (bs ([])), .slice (none) (0) (0), .slice (some ⟨b33, 0, none⟩) (2) (2)] := RX.tree ⟨by omega, by omega⟩ (by simp) RX.nils (hF.rowX 3 rfl (RX.append (ds := [_]) (RX.num _ (by simp)) (RX.tree ⟨by omega, by omega⟩ (by simp) RX.nils RX.nils)) (by simp) rfl (by omega))
 have hZ : RX w0 [] w [treeD wT] [.int .i64 (6), .string (bs ([])), .slice (some ⟨b44, 0, none⟩) (2) (2), .slice (some ⟨b49, 0, none⟩) (2) (2)] := RX.tree ⟨by omega, by omega⟩ (by simp) (hF.rowX 2 rfl (RX.strs (ks := [[98], [97]]) (by simp)) (by simp) rfl (by omega)) (hF.rowX 0 rfl (RX.append (ds := [_]) hR (RX.str _ (by simp))) (by simp) rfl (by omega))
 exact e_inv ⟨(b48), ([.int .i64 (6), .string (bs ([])), .slice (some ⟨b44, 0, none⟩) (2) (2), .slice (some ⟨b49, 0, none⟩) (2) (2)]), (rfl), (by simp [one]), (hZ), ⟨rfl, trivial⟩, (((((hF.front 4 rfl).front 2 rfl).erase 2).erase 2).erase 2)⟩
 refine f_new rfl (v := fun b => .pointer (some ⟨b, 0, none⟩)) (o := .cells #[.int .i64 (0), .string (bs ([])), .slice (none) (0) (0), .slice (none) (0) (0)] 25) hF (x_alloc Tryz.zeroValue25) ?_
 clear hF; rintro b50 w hb50 hF -
 refine ⟨hF.sub (.cons _ (.cons _ (.cons _ (.cons_cons _ .slnil)))), ?_⟩
 refine f_call rfl (of_c [120] _) (x_call1 en_25 rfl rfl) ?_
 rintro _ w ⟨rfl, hE⟩
 replace hF := hF.ext hE
 clear hE
 refine ⟨hF.sub (.cons _ (.cons _ (.cons _ (.cons_cons _ .slnil)))), ?_⟩
 refine f_new rfl (v := fun b => .slice (some ⟨b, 0, none⟩) 2 2) hF (x_buildSlice (cs := #[.int .i64 (5), .string (bs ([])), .slice (none) (0) (0), .slice (some ⟨b33, 0, none⟩) (2) (2), .int .i64 (4), .string (bs ([120])), .slice (none) (0) (0), .slice (none) (0) (0)]) Tryz.underlying23 Tryz.sizeOf25 Tryz.zeroValue25 (by decide) (by decide) (by kernel_rfl)) ?_
 clear hF; rintro b51 w hb51 hF -
 refine ⟨hF.sub (.cons _ (.cons _ (.cons _ (.cons _ (.cons_cons _ .slnil))))), ?_⟩
 refine f_call rfl (map_c (some ⟨b44, 0, none⟩) 2 2 (some ⟨b51, 0, none⟩) 2 2 _) (x_call2 en_49 rfl rfl rfl) ?_
 rintro _ w ⟨rfl, hE⟩
 replace hF := hF.ext hE
 clear hE
 refine ⟨hF.sub (.cons _ (.cons _ (.cons _ (.cons _ (.cons_cons _ .slnil))))), ?_⟩
 refine f_storez rfl 1 (l := [.int .i64 (6), .string (bs ([])), .slice (some ⟨b44, 0, none⟩) (2) (2), .slice (some ⟨b51, 0, none⟩) (2) (2)]) (cs' := #[.int .i64 (6), .string (bs ([])), .slice (some ⟨b44, 0, none⟩) (2) (2), .slice (some ⟨b51, 0, none⟩) (2) (2)]) hF Tryz.sizeOf25 rfl (v := .agg #[.int .i64 (6), .string (bs ([])), .slice (some ⟨b44, 0, none⟩) (2) (2), .slice (some ⟨b51, 0, none⟩) (2) (2)]) rfl rfl (by simp [one]) rfl (Nat.le_of_ble_eq_true rfl) rfl ?_
 clear hF; rintro w hF -
 replace hF : FR w0 [] [(b51, .cells #[.int .i64 (5), .string (bs ([])), .slice (none) (0) (0), .slice (some ⟨b33, 0, none⟩) (2) (2), .int .i64 (4), .string (bs ([120])), .slice (none) (0) (0), .slice (none) (0) (0)] 25), (b50, .cells #[.int .i64 (6), .string (bs ([])), .slice (some ⟨b44, 0, none⟩) (2) (2), .slice (some ⟨b51, 0, none⟩) (2) (2)] 25), (b44, .cells #[.string (bs ([98])), .string (bs ([97]))] 9), (b33, .cells #[.int .i64 (3), .string (bs ([49])), .slice (none) (0) (0), .slice (none) (0) (0), .int .i64 (1), .string (bs ([])), .slice (none) (0) (0), .slice (none) (0) (0)] 25), (b1, .cells #[.int .i64 (1), .string (bs ([])), .slice (none) (0) (0), .slice (none) (0) (0)] 25)] w := hF
 refine d_nil ?_
 have hR : RX w0 [] w [treeD rwT] [.int .i64 (5), .string (bs ([])), .slice (none) (0) (0), .slice (some ⟨b33, 0, none⟩) (2) (2)] := RX.tree ⟨by omega, by omega⟩ (by simp) RX.nils (hF.rowX 3 rfl (RX.append (ds := [_]) (RX.num _ (by simp)) (RX.tree ⟨by omega, by omega⟩ (by simp) RX.nils RX.nils)) (by simp) rfl (by omega))
 have hZ : RX w0 [] w [treeD wT] [.int .i64 (6), .string (bs ([])), .slice (some ⟨b44, 0, none⟩) (2) (2), .slice (some ⟨b51, 0, none⟩) (2) (2)] := RX.tree ⟨by omega, by omega⟩ (by simp) (hF.rowX 2 rfl (RX.strs (ks := [[98], [97]]) (by simp)) (by simp) rfl (by omega)) (hF.rowX 0 rfl (RX.append (ds := [_]) hR (RX.str _ (by simp))) (by simp) rfl (by omega))
 exact e_inv ⟨(b50), ([.int .i64 (6), .string (bs ([])), .slice (some ⟨b44, 0, none⟩) (2) (2), .slice (some ⟨b51, 0, none⟩) (2) (2)]), (rfl), (by simp [one]), (hZ), ⟨rfl, trivial⟩, (((((hF.front 4 rfl).front 2 rfl).erase 2).erase 2).erase 2)⟩
 refine d_alt ?_ ?_
 refine f_call rfl (of_c [120] _) (x_call1 en_25 rfl rfl) ?_
 rintro _ w ⟨rfl, hE⟩
 replace hF := hF.ext hE
 clear hE
 refine ⟨hF.sub (.cons _ (.cons_cons _ .slnil)), ?_⟩
 refine d_alt ?_ ?_
 refine f_new rfl (v := fun b => .slice (some ⟨b, 0, none⟩) 2 2) hF (x_buildSlice (cs := #[.string (bs ([98])), .string (bs ([97]))]) Tryz.underlying22 Tryz.sizeOf9 Tryz.zeroValue9 (by decide) (by decide) (by kernel_rfl)) ?_
 clear hF; rintro b52 w hb52 hF -
 refine ⟨hF.sub (.cons _ (.cons _ (.cons_cons _ .slnil))), ?_⟩
 refine d_alt ?_ ?_
 refine f_new rfl (v := fun b => .slice (some ⟨b, 0, none⟩) 2 2) hF (x_buildSlice (cs := #[.int .i64 (5), .string (bs ([])), .slice (none) (0) (0), .slice (some ⟨b33, 0, none⟩) (2) (2), .int .i64 (4), .string (bs ([120])), .slice (none) (0) (0), .slice (none) (0) (0)]) Tryz.underlying23 Tryz.sizeOf25 Tryz.zeroValue25 (by decide) (by decide) (by kernel_rfl)) ?_
 clear hF; rintro b53 w hb53 hF -
 refine ⟨hF.sub (.cons _ (.cons _ (.cons _ (.cons_cons _ .slnil)))), ?_⟩
 refine d_alt ?_ ?_
 refine f_call rfl (map_c (some ⟨b52, 0, none⟩) 2 2 (some ⟨b53, 0, none⟩) 2 2 _) (x_call2 en_49 rfl rfl rfl) ?_
 rintro _ w ⟨rfl, hE⟩
 replace hF := hF.ext hE
 clear hE
 refine ⟨hF.sub (.cons _ (.cons _ (.cons _ (.cons_cons _ .slnil)))), ?_⟩
 refine f_new rfl (v := fun b => .pointer (some ⟨b, 0, none⟩)) (o := .cells #[.int .i64 (0), .string (bs ([])), .slice (none) (0) (0), .slice (none) (0) (0)] 25) hF (x_alloc Tryz.zeroValue25) ?_
 clear hF; rintro b54 w hb54 hF -
 refine ⟨hF.sub (.cons _ (.cons _ (.cons _ (.cons _ (.cons_cons _ .slnil))))), ?_⟩
 refine f_storez rfl 0 (l := [.int .i64 (6), .string (bs ([])), .slice (some ⟨b52, 0, none⟩) (2) (2), .slice (some ⟨b53, 0, none⟩) (2) (2)]) (cs' := #[.int .i64 (6), .string (bs ([])), .slice (some ⟨b52, 0, none⟩) (2) (2), .slice (some ⟨b53, 0, none⟩) (2) (2)]) hF Tryz.sizeOf25 rfl (v := .agg #[.int .i64 (6), .string (bs ([])), .slice (some ⟨b52, 0, none⟩) (2) (2), .slice (some ⟨b53, 0, none⟩) (2) (2)]) rfl rfl (by simp [one]) rfl (Nat.le_of_ble_eq_true rfl) rfl ?_
 clear hF; rintro w hF -
 replace hF : FR w0 [] [(b54, .cells #[.int .i64 (6), .string (bs ([])), .slice (some ⟨b52, 0, none⟩) (2) (2), .slice (some ⟨b53, 0, none⟩) (2) (2)] 25), (b53, .cells #[.int .i64 (5), .string (bs ([])), .slice (none) (0) (0), .slice (some ⟨b33, 0, none⟩) (2) (2), .int .i64 (4), .string (bs ([120])), .slice (none) (0) (0), .slice (none) (0) (0)] 25), (b52, .cells #[.string (bs ([98])), .string (bs ([97]))] 9), (b33, .cells #[.int .i64 (3), .string (bs ([49])), .slice (none) (0) (0), .slice (none) (0) (0), .int .i64 (1), .string (bs ([])), .slice (none) (0) (0), .slice (none) (0) (0)] 25), (b1, .cells #[.int .i64 (1), .string (bs ([])), .slice (none) (0) (0), .slice (none) (0) (0)] 25)] w := hF
 refine d_nil ?_
 have hR : RX w0 [] w [treeD rwT] [.int .i64 (5), .string (bs ([])), .slice (none) (0) (0), .slice (some ⟨b33, 0, none⟩) (2) (2)] := RX.tree ⟨by omega, by omega⟩ (by simp) RX.nils (hF.rowX 3 rfl (RX.append (ds := [_]) (RX.num _ (by simp)) (RX.tree ⟨by omega, by omega⟩ (by simp) RX.nils RX.nils)) (by simp) rfl (by omega))
 have hZ : RX w0 [] w [treeD wT] [.int .i64 (6), .string (bs ([])), .slice (some ⟨b52, 0, none⟩) (2) (2), .slice (some ⟨b53, 0, none⟩) (2) (2)] := RX.tree ⟨by omega, by omega⟩ (by simp) (hF.rowX 2 rfl (RX.strs (ks := [[98], [97]]) (by simp)) (by simp) rfl (by omega)) (hF.rowX 1 rfl (RX.append (ds := [_]) hR (RX.str _ (by simp))) (by simp) rfl (by omega))
 exact e_inv ⟨(b54), ([.int .i64 (6), .string (bs ([])), .slice (some ⟨b52, 0, none⟩) (2) (2), .slice (some ⟨b53, 0, none⟩) (2) (2)]), (rfl), (by simp [one]), (hZ), ⟨rfl, trivial⟩, (((((hF.front 4 rfl).front 1 rfl).erase 2).erase 2).erase 2)⟩
 refine f_new rfl (v := fun b => .pointer (some ⟨b, 0, none⟩)) (o := .cells #[.int .i64 (0), .string (bs ([])), .slice (none) (0) (0), .slice (none) (0) (0)] 25) hF (x_alloc Tryz.zeroValue25) ?_
 clear hF; rintro b55 w hb55 hF -
 refine ⟨hF.sub (.cons _ (.cons _ (.cons _ (.cons _ (.cons_cons _ .slnil))))), ?_⟩
 refine f_call rfl (map_c (some ⟨b52, 0, none⟩) 2 2 (some ⟨b53, 0, none⟩) 2 2 _) (x_call2 en_49 rfl rfl rfl) ?_
 rintro _ w ⟨rfl, hE⟩
 replace hF := hF.ext hE
 clear hE
 refine ⟨hF.sub (.cons _ (.cons _ (.cons _ (.cons _ (.cons_cons _ .slnil))))), ?_⟩
 refine f_storez rfl 0 (l := [.int .i64 (6), .string (bs ([])), .slice (some ⟨b52, 0, none⟩) (2) (2), .slice (some ⟨b53, 0, none⟩) (2) (2)]) (cs' := #[.int .i64 (6), .string (bs ([])), .slice (some ⟨b52, 0, none⟩) (2) (2), .slice (some ⟨b53, 0, none⟩) (2) (2)]) hF Tryz.sizeOf25 rfl (v := .agg #[.int .i64 (6), .string (bs ([])), .slice (some ⟨b52, 0, none⟩) (2) (2), .slice (some ⟨b53, 0, none⟩) (2) (2)]) rfl rfl (by simp [one]) rfl (Nat.le_of_ble_eq_true rfl) rfl ?_
 clear hF; rintro w hF -
 replace hF : FR w0 [] [(b55, .cells #[.int .i64 (6), .string (bs ([])), .slice (some ⟨b52, 0, none⟩) (2) (2), .slice (some ⟨b53, 0, none⟩) (2) (2)] 25), (b53, .cells #[.int .i64 (5), .string (bs ([])), .slice (none) (0) (0), .slice (some ⟨b33, 0, none⟩) (2) (2), .int .i64 (4), .string (bs ([120])), .slice (none) (0) (0), .slice (none) (0) (0)] 25), (b52, .cells #[.string (bs ([98])), .string (bs ([97]))] 9), (b33, .cells #[.int .i64 (3), .string (bs ([49])), .slice (none) (0) (0), .slice (none) (0) (0), .int .i64 (1), .string (bs ([])), .slice (none) (0) (0), .slice (none) (0) (0)] 25), (b1, .cells #[.int .i64 (1), .string (bs ([])), .slice (none) (0) (0), .slice (none) (0) (0)] 25)] w := hF
 refine d_nil ?_
 have hR : RX w0 [] w [treeD rwT] [.int .i64 (5), .string (bs ([])), .slice (none) (0) (0), .slice (some ⟨b33, 0, none⟩) (2) (2)] := RX.tree ⟨by omega, by omega⟩ (by simp) RX.nils (hF.rowX 3 rfl (RX.append (ds := [_]) (RX.num _ (by simp)) (RX.tree ⟨by omega, by omega⟩ (by simp) RX.nils RX.nils)) (by simp) rfl (by omega))
 have hZ : RX w0 [] w [treeD wT] [.int .i64 (6), .string (bs ([])), .slice (some ⟨b52, 0, none⟩) (2) (2), .slice (some ⟨b53, 0, none⟩) (2) (2)] := RX.tree ⟨by omega, by omega⟩ (by simp) (hF.rowX 2 rfl (RX.strs (ks := [[98], [97]]) (by simp)) (by simp) rfl (by omega)) (hF.rowX 1 rfl (RX.append (ds := [_]) hR (RX.str _ (by simp))) (by simp) rfl (by omega))
 exact e_inv ⟨(b55), ([.int .i64 (6), .string (bs ([])), .slice (some ⟨b52, 0, none⟩) (2) (2), .slice (some ⟨b53, 0, none⟩) (2) (2)]), (rfl), (by simp [one]), (hZ), ⟨rfl, trivial⟩, (((((hF.front 4 rfl).front 1 rfl).erase 2).erase 2).erase 2)⟩
 refine f_new rfl (v := fun b => .pointer (some ⟨b, 0, none⟩)) (o := .cells #[.int .i64 (0), .string (bs ([])), .slice (none) (0) (0), .slice (none) (0) (0)] 25) hF (x_alloc Tryz.zeroValue25) ?_
 clear hF; rintro b56 w hb56 hF -
 refine ⟨hF.sub (.cons _ (.cons _ (.cons _ (.cons_cons _ .slnil)))), ?_⟩
 refine f_new rfl (v := fun b => .slice (some ⟨b, 0, none⟩) 2 2) hF (x_buildSlice (cs := #[.int .i64 (5), .string (bs ([])), .slice (none) (0) (0), .slice (some ⟨b33, 0, none⟩) (2) (2), .int .i64 (4), .string (bs ([120])), .slice (none) (0) (0), .slice (none) (0) (0)]) Tryz.underlying23 Tryz.sizeOf25 Tryz.zeroValue25 (by decide) (by decide) (by kernel_rfl)) ?_
 clear hF; rintro b57 w hb57 hF -
 refine ⟨hF.sub (.cons _ (.cons _ (.cons _ (.cons _ (.cons_cons _ .slnil))))), ?_⟩
 refine f_call rfl (map_c (some ⟨b52, 0, none⟩) 2 2 (some ⟨b57, 0, none⟩) 2 2 _) (x_call2 en_49 rfl rfl rfl) ?_
 rintro _ w ⟨rfl, hE⟩
 replace hF := hF.ext hE
 clear hE
 refine ⟨hF.sub (.cons _ (.cons _ (.cons _ (.cons _ (.cons_cons _ .slnil))))), ?_⟩
 refine f_storez rfl 1 (l := [.int .i64 (6), .string (bs ([])), .slice (some ⟨b52, 0, none⟩) (2) (2), .slice (some ⟨b57, 0, none⟩) (2) (2)]) (cs' := #[.int .i64 (6), .string (bs ([])), .slice (some ⟨b52, 0, none⟩) (2) (2), .slice (some ⟨b57, 0, none⟩) (2) (2)]) hF Tryz.sizeOf25 rfl (v := .agg #[.int .i64 (6), .string (bs ([])), .slice (some ⟨b52, 0, none⟩) (2) (2), .slice (some ⟨b57, 0, none⟩) (2) (2)]) rfl rfl (by simp [one]) rfl (Nat.le_of_ble_eq_true rfl) rfl ?_
 clear hF; rintro w hF -
 replace hF : FR w0 [] [(b57, .cells #[.int .i64 (5), .string (bs ([])), .slice (none) (0) (0), .slice (some ⟨b33, 0, none⟩) (2) (2), .int .i64 (4), .string (bs ([120])), .slice (none) (0) (0), .slice (none) (0) (0)] 25), (b56, .cells #[.int .i64 (6), .string (bs ([])), .slice (some ⟨b52, 0, none⟩) (2) (2), .slice (some ⟨b57, 0, none⟩) (2) (2)] 25), (b52, .cells #[.string (bs ([98])), .string (bs ([97]))] 9), (b33, .cells #[.int .i64 (3), .string (bs ([49])), .slice (none) (0) (0), .slice (none) (0) (0), .int .i64 (1), .string (bs ([])), .slice (none) (0) (0), .slice (none) (0) (0)] 25), (b1, .cells #[.int .i64 (1), .string (bs ([])), .slice (none) (0) (0), .slice (none) (0) (0)] 25)] w := hF
 refine d_nil ?_
 have hR : RX w0 [] w [treeD rwT] [.int .i64 (5), .string (bs ([])), .slice (none) (0) (0), .slice (some ⟨b33, 0, none⟩) (2) (2)] := RX.tree ⟨by omega, by omega⟩ (by simp) RX.nils (hF.rowX 3 rfl (RX.append (ds := [_]) (RX.num _ (by simp)) (RX.tree ⟨by omega, by omega⟩ (by simp) RX.nils RX.nils)) (by simp) rfl (by omega))
 have hZ : RX w0 [] w [treeD wT] [.int .i64 (6), .string (bs ([])), .slice (some ⟨b52, 0, none⟩) (2) (2), .slice (some ⟨b57, 0, none⟩) (2) (2)] := RX.tree ⟨by omega, by omega⟩ (by simp) (hF.rowX 2 rfl (RX.strs (ks := [[98], [97]]) (by simp)) (by simp) rfl (by omega)) (hF.rowX 0 rfl (RX.append (ds := [_]) hR (RX.str _ (by simp))) (by simp) rfl (by omega))
 exact e_inv ⟨(b56), ([.int .i64 (6), .string (bs ([])), .slice (some ⟨b52, 0, none⟩) (2) (2), .slice (some ⟨b57, 0, none⟩) (2) (2)]), (rfl), (by simp [one]), (hZ), ⟨rfl, trivial⟩, (((((hF.front 4 rfl).front 2 rfl).erase 2).erase 2).erase 2)⟩
 refine d_alt ?_ ?_
 refine f_new rfl (v := fun b => .slice (some ⟨b, 0, none⟩) 2 2) hF (x_buildSlice (cs := #[.int .i64 (5), .string (bs ([])), .slice (none) (0) (0), .slice (some ⟨b33, 0, none⟩) (2) (2), .int .i64 (4), .string (bs ([120])), .slice (none) (0) (0), .slice (none) (0) (0)]) Tryz.underlying23 Tryz.sizeOf25 Tryz.zeroValue25 (by decide) (by decide) (by kernel_rfl)) ?_
 clear hF; rintro b58 w hb58 hF -
 refine ⟨hF.sub (.cons _ (.cons _ (.cons_cons _ .slnil))), ?_⟩
 refine d_alt ?_ ?_
 refine f_new rfl (v := fun b => .slice (some ⟨b, 0, none⟩) 2 2) hF (x_buildSlice (cs := #[.string (bs ([98])), .string (bs ([97]))]) Tryz.underlying22 Tryz.sizeOf9 Tryz.zeroValue9 (by decide) (by decide) (by kernel_rfl)) ?_
 clear hF; rintro b59 w hb59 hF -
 refine ⟨hF.sub (.cons _ (.cons _ (.cons _ (.cons_cons _ .slnil)))), ?_⟩
 refine d_alt ?_ ?_
 refine f_call rfl (map_c (some ⟨b59, 0, none⟩) 2 2 (some ⟨b58, 0, none⟩) 2 2 _) (x_call2 en_49 rfl rfl rfl) ?_
 rintro _ w ⟨rfl, hE⟩
 replace hF := hF.ext hE
 clear hE
 refine ⟨hF.sub (.cons _ (.cons _ (.cons _ (.cons_cons _ .slnil)))), ?_⟩
 refine f_new rfl (v := fun b => .pointer (some ⟨b, 0, none⟩)) (o := .cells #[.int .i64 (0), .string (bs ([])), .slice (none) (0) (0), .slice (none) (0) (0)] 25) hF (x_alloc Tryz.zeroValue25) ?_
 clear hF; rintro b60 w hb60 hF -
 refine ⟨hF.sub (.cons _ (.cons _ (.cons _ (.cons _ (.cons_cons _ .slnil))))), ?_⟩
 refine f_storez rfl 0 (l := [.int .i64 (6), .string (bs ([])), .slice (some ⟨b59, 0, none⟩) (2) (2), .slice (some ⟨b58, 0, none⟩) (2) (2)]) (cs' := #[.int .i64 (6), .string (bs ([])), .slice (some ⟨b59, 0, none⟩) (2) (2), .slice (some ⟨b58, 0, none⟩) (2) (2)]) hF Tryz.sizeOf25 rfl (v := .agg #[.int .i64 (6), .string (bs ([])), .slice (some ⟨b59, 0, none⟩) (2) (2), .slice (some ⟨b58, 0, none⟩) (2) (2)]) rfl rfl (by simp [one]) rfl (Nat.le_of_ble_eq_true rfl) rfl ?_
 clear hF; rintro w hF -
 replace hF : FR w0 [] [(b60, .cells #[.int .i64 (6), .string (bs ([])), .slice (some ⟨b59, 0, none⟩) (2) (2), .slice (some ⟨b58, 0, none⟩) (2) (2)] 25), (b59, .cells #[.string (bs ([98])), .string (bs ([97]))] 9), (b58, .cells #[.int .i64 (5), .string (bs ([])), .slice (none) (0) (0), .slice (some ⟨b33, 0, none⟩) (2) (2), .int .i64 (4), .string (bs ([120])), .slice (none) (0) (0), .slice (none) (0) (0)] 25), (b33, .cells #[.int .i64 (3), .string (bs ([49])), .slice (none) (0) (0), .slice (none) (0) (0), .int .i64 (1), .string (bs ([])), .slice (none) (0) (0), .slice (none) (0) (0)] 25), (b1, .cells #[.int .i64 (1), .string (bs ([])), .slice (none) (0) (0), .slice (none) (0) (0)] 25)] w := hF
 refine d_nil ?_
 have hR : RX w0 [] w [treeD rwT] [.int .i64 (5), .string (bs ([])), .slice (none) (0) (0), .slice (some ⟨b33, 0, none⟩) (2) (2)] := RX.tree ⟨by omega, by omega⟩ (by simp) RX.nils (hF.rowX 3 rfl (RX.append (ds := [_]) (RX.num _ (by simp)) (RX.tree ⟨by omega, by omega⟩ (by simp) RX.nils RX.nils)) (by simp) rfl (by omega))
 have hZ : RX w0 [] w [treeD wT] [.int .i64 (6), .string (bs ([])), .slice (some ⟨b59, 0, none⟩) (2) (2), .slice (some ⟨b58, 0, none⟩) (2) (2)] := RX.tree ⟨by omega, by omega⟩ (by simp) (hF.rowX 1 rfl (RX.strs (ks := [[98], [97]]) (by simp)) (by simp) rfl (by omega)) (hF.rowX 2 rfl (RX.append (ds := [_]) hR (RX.str _ (by simp))) (by simp) rfl (by omega))
 exact e_inv ⟨(b60), ([.int .i64 (6), .string (bs ([])), .slice (some ⟨b59, 0, none⟩) (2) (2), .slice (some ⟨b58, 0, none⟩) (2) (2)]), (rfl), (by simp [one]), (hZ), ⟨rfl, trivial⟩, (((((hF.front 4 rfl).front 1 rfl).erase 2).erase 2).erase 2)⟩
 refine f_new rfl (v := fun b => .pointer (some ⟨b, 0, none⟩)) (o := .cells #[.int .i64 (0), .string (bs ([])), .slice (none) (0) (0), .slice (none) (0) (0)] 25) hF (x_alloc Tryz.zeroValue25) ?_
 clear hF; rintro b61 w hb61 hF -
 refine ⟨hF.sub (.cons _ (.cons _ (.cons _ (.cons _ (.cons_cons _ .slnil))))), ?_⟩
 refine f_call rfl (map_c (some ⟨b59, 0, none⟩) 2 2 (some ⟨b58, 0, none⟩) 2 2 _) (x_call2 en_49 rfl rfl rfl) ?_
 rintro _ w ⟨rfl, hE⟩
 replace hF := hF.ext hE
 clear hE
 refine ⟨hF.sub (.cons _ (.cons _ (.cons _ (.cons _ (.cons_cons _ .slnil))))), ?_⟩
 refine f_storez rfl 0 (l := [.int .i64 (6), .string (bs ([])), .slice (some ⟨b59, 0, none⟩) (2) (2), .slice (some ⟨b58, 0, none⟩) (2) (2)]) (cs' := #[.int .i64 (6), .string (bs ([])), .slice (some ⟨b59, 0, none⟩) (2) (2), .slice (some ⟨b58, 0, none⟩) (2) (2)]) hF Tryz.sizeOf25 rfl (v := .agg #[.int .i64 (6), .string (bs ([])), .slice (some ⟨b59, 0, none⟩) (2) (2), .slice (some ⟨b58, 0, none⟩) (2) (2)]) rfl rfl (by simp [one]) rfl (Nat.le_of_ble_eq_true rfl) rfl ?_
 clear hF; rintro w hF -
 replace hF : FR w0 [] [(b61, .cells #[.int .i64 (6), .string (bs ([])), .slice (some ⟨b59, 0, none⟩) (2) (2), .slice (some ⟨b58, 0, none⟩) (2) (2)] 25), (b59, .cells #[.string (bs ([98])), .string (bs ([97]))] 9), (b58, .cells #[.int .i64 (5), .string (bs ([])), .slice (none) (0) (0), .slice (some ⟨b33, 0, none⟩) (2) (2), .int .i64 (4), .string (bs ([120])), .slice (none) (0) (0), .slice (none) (0) (0)] 25), (b33, .cells #[.int .i64 (3), .string (bs ([49])), .slice (none) (0) (0), .slice (none) (0) (0), .int .i64 (1), .string (bs ([])), .slice (none) (0) (0), .slice (none) (0) (0)] 25), (b1, .cells #[.int .i64 (1), .string (bs ([])), .slice (none) (0) (0), .slice (none) (0) (0)] 25)] w := hF
 refine d_nil ?_
 have hR : RX w0 [] w [treeD rwT] [.int .i64 (5), .string (bs ([])), .slice (none) (0) (0), .slice (some ⟨b33, 0, none⟩) (2) (2)] := RX.tree ⟨by omega, by omega⟩ (by simp) RX.nils (hF.rowX 3 rfl (RX.append (ds := [_]) (RX.num _ (by simp)) (RX.tree ⟨by omega, by omega⟩ (by simp) RX.nils RX.nils)) (by simp) rfl (by omega))
 have hZ : RX w0 [] w [treeD wT] [.int .i64 (6), .string (bs ([])), .slice (some ⟨b59, 0, none⟩) (2) (2), .slice (some ⟨b58, 0, none⟩) (2) (2)] := RX.tree ⟨by omega, by omega⟩ (by simp) (hF.rowX 1 rfl (RX.strs (ks := [[98], [97]]) (by simp)) (by simp) rfl (by omega)) (hF.rowX 2 rfl (RX.append (ds := [_]) hR (RX.str _ (by simp))) (by simp) rfl (by omega))
 exact e_inv ⟨(b61), ([.int .i64 (6), .string (bs ([])), .slice (some ⟨b59, 0, none⟩) (2) (2), .slice (some ⟨b58, 0, none⟩) (2) (2)]), (rfl), (by simp [one]), (hZ), ⟨rfl, trivial⟩, (((((hF.front 4 rfl).front 1 rfl).erase 2).erase 2).erase 2)⟩
 refine f_new rfl (v := fun b => .pointer (some ⟨b, 0, none⟩)) (o := .cells #[.int .i64 (0), .string (bs ([])), .slice (none) (0) (0), .slice (none) (0) (0)] 25) hF (x_alloc Tryz.zeroValue25) ?_
 clear hF; rintro b62 w hb62 hF -
 refine ⟨hF.sub (.cons _ (.cons _ (.cons _ (.cons_cons _ .slnil)))), ?_⟩
 refine f_new rfl (v := fun b => .slice (some ⟨b, 0, none⟩) 2 2) hF (x_buildSlice (cs := #[.string (bs ([98])), .string (bs ([97]))]) Tryz.underlying22 Tryz.sizeOf9 Tryz.zeroValue9 (by decide) (by decide) (by kernel_rfl)) ?_
 clear hF; rintro b63 w hb63 hF -
 refine ⟨hF.sub (.cons _ (.cons _ (.cons _ (.cons _ (.cons_cons _ .slnil))))), ?_⟩
 refine f_call rfl (map_c (some ⟨b63, 0, none⟩) 2 2 (some ⟨b58, 0, none⟩) 2 2 _) (x_call2 en_49 rfl rfl rfl) ?_
 rintro _ w ⟨rfl, hE⟩
 replace hF := hF.ext hE
 clear hE
 refine ⟨hF.sub (.cons _ (.cons _ (.cons _ (.cons _ (.cons_cons _ .slnil))))), ?_⟩
 refine f_storez rfl 1 (l := [.int .i64 (6), .string (bs ([])), .slice (some ⟨b63, 0, none⟩) (2) (2), .slice (some ⟨b58, 0, none⟩) (2) (2)]) (cs' := #[.int .i64 (6), .string (bs ([])), .slice (some ⟨b63, 0, none⟩) (2) (2), .slice (some ⟨b58, 0, none⟩) (2) (2)]) hF Tryz.sizeOf25 rfl (v := .agg #[.int .i64 (6), .string (bs ([])), .slice (some ⟨b63, 0, none⟩) (2) (2), .slice (some ⟨b58, 0, none⟩) (2) (2)]) rfl rfl (by simp [one]) rfl (Nat.le_of_ble_eq_true rfl) rfl ?_
 clear hF; rintro w hF -
 replace hF : FR w0 [] [(b63, .cells #[.string (bs ([98])), .string (bs ([97]))] 9), (b62, .cells #[.int .i64 (6), .string (bs ([])), .slice (some ⟨b63, 0, none⟩) (2) (2), .slice (some ⟨b58, 0, none⟩) (2) (2)] 25), (b58, .cells #[.int .i64 (5), .string (bs ([])), .slice (none) (0) (0), .slice (some ⟨b33, 0, none⟩) (2) (2), .int .i64 (4), .string (bs ([120])), .slice (none) (0) (0), .slice (none) (0) (0)] 25), (b33, .cells #[.int .i64 (3), .string (bs ([49])), .slice (none) (0) (0), .slice (none) (0) (0), .int .i64 (1), .string (bs ([])), .slice (none) (0) (0), .slice (none) (0) (0)] 25), (b1, .cells #[.int .i64 (1), .string (bs ([])), .slice (none) (0) (0), .slice (none) (0) (0)] 25)] w := hF
 refine d_nil ?_
 have hR : RX w0 [] w [treeD rwT] [.int .i64 (5), .string (bs ([])), .slice (none) (0) (0), .slice (some ⟨b33, 0, none⟩) (2) (2)] := RX.tree ⟨by omega, by omega⟩ (by simp) RX.nils (hF.rowX 3 rfl (RX.append (ds := [_]) (RX.num _ (by simp)) (RX.tree ⟨by omega, by omega⟩ (by simp) RX.nils RX.nils)) (by simp) rfl (by omega))
 have hZ : RX w0 [] w [treeD wT] [.int .i64 (6), .string (bs ([])), .slice (some ⟨b63, 0, none⟩) (2) (2), .slice (some ⟨b58, 0, none⟩) (2) (2)] := RX.tree ⟨by omega, by omega⟩ (by simp) (hF.rowX 0 rfl (RX.strs (ks := [[98], [97]]) (by simp)) (by simp) rfl (by omega)) (hF.rowX 2 rfl (RX.append (ds := [_]) hR (RX.str _ (by simp))) (by simp) rfl (by omega))
 exact e_inv ⟨(b62), ([.int .i64 (6), .string (bs ([])), .slice (some ⟨b63, 0, none⟩) (2) (2), .slice (some ⟨b58, 0, none⟩) (2) (2)]), (rfl), (by simp [one]), (hZ), ⟨rfl, trivial⟩, (((((hF.front 4 rfl).front 2 rfl).erase 2).erase 2).erase 2)⟩
 refine f_new rfl (v := fun b => .pointer (some ⟨b, 0, none⟩)) (o := .cells #[.int .i64 (0), .string (bs ([])), .slice (none) (0) (0), .slice (none) (0) (0)] 25) hF (x_alloc Tryz.zeroValue25) ?_
 clear hF; rintro b64 w hb64 hF -
 refine ⟨hF.sub (.cons _ (.cons _ (.cons_cons _ .slnil))), ?_⟩
 refine d_alt ?_ ?_
 refine f_new rfl (v := fun b => .slice (some ⟨b, 0, none⟩) 2 2) hF (x_buildSlice (cs := #[.string (bs ([98])), .string (bs ([97]))]) Tryz.underlying22 Tryz.sizeOf9 Tryz.zeroValue9 (by decide) (by decide) (by kernel_rfl)) ?_
 clear hF; rintro b65 w hb65 hF -
 refine ⟨hF.sub (.cons _ (.cons _ (.cons _ (.cons_cons _ .slnil)))), ?_⟩
 refine f_new rfl (v := fun b => .slice (some ⟨b, 0, none⟩) 2 2) hF (x_buildSlice (cs := #[.int .i64 (5), .string (bs ([])), .slice (none) (0) (0), .slice (some ⟨b33, 0, none⟩) (2) (2), .int .i64 (4), .string (bs ([120])), .slice (none) (0) (0), .slice (none) (0) (0)]) Tryz.underlying23 Tryz.sizeOf25 Tryz.zeroValue25 (by decide) (by decide) (by kernel_rfl)) ?_
 clear hF; rintro b66 w hb66 hF -
 refine ⟨hF.sub (.cons _ (.cons _ (.cons _ (.cons _ (.cons_cons _ .slnil))))), ?_⟩
 refine f_call rfl (map_c (some ⟨b65, 0, none⟩) 2 2 (some ⟨b66, 0, none⟩) 2 2 _) (x_call2 en_49 rfl rfl rfl) ?_
 rintro _ w ⟨rfl, hE⟩
 replace hF := hF.ext hE
 clear hE
 refine ⟨hF.sub (.cons _ (.cons _ (.cons _ (.cons _ (.cons_cons _ .slnil))))), ?_⟩
 refine f_storez rfl 2 (l := [.int .i64 (6), .string (bs ([])), .slice (some ⟨b65, 0, none⟩) (2) (2), .slice (some ⟨b66, 0, none⟩) (2) (2)]) (cs' := #[.int .i64 (6), .string (bs ([])), .slice (some ⟨b65, 0, none⟩) (2) (2), .slice (some ⟨b66, 0, none⟩) (2) (2)]) hF Tryz.sizeOf25 rfl (v := .agg #[.int .i64 (6), .string (bs ([])), .slice (some ⟨b65, 0, none⟩) (2) (2), .slice (some ⟨b66, 0, none⟩) (2) (2)]) rfl rfl (by simp [one]) rfl (Nat.le_of_ble_eq_true rfl) rfl ?_
 clear hF; rintro w hF -
 replace hF : FR w0 [] [(b66, .cells #[.int .i64 (5), .string (bs ([])), .slice (none) (0) (0), .slice (some ⟨b33, 0, none⟩) (2) (2), .int .i64 (4), .string (bs ([120])), .slice (none) (0) (0), .slice (none) (0) (0)] 25), (b65, .cells #[.string (bs ([98])), .string (bs ([97]))] 9), (b64, .cells #[.int .i64 (6), .string (bs ([])), .slice (some ⟨b65, 0, none⟩) (2) (2), .slice (some ⟨b66, 0, none⟩) (2) (2)] 25), (b33, .cells #[.int .i64 (3), .string (bs ([49])), .slice (none) (0) (0), .slice (none) (0) (0), .int .i64 (1), .string (bs ([])), .slice (none) (0) (0), .slice (none) (0) (0)] 25), (b1, .cells #[.int .i64 (1), .string (bs ([])), .slice (none) (0) (0), .slice (none) (0) (0)] 25)] w := hF
 refine d_nil ?_
 have hR : RX w0 [] w [treeD rwT] [.int .i64 (5), .string (bs ([])), .slice (none) (0) (0), .slice (some ⟨b33, 0, none⟩) (2) (2)] := RX.tree ⟨by omega, by omega⟩ (by simp) RX.nils (hF.rowX 3 rfl (RX.append (ds := [_]) (RX.num _ (by simp)) (RX.tree ⟨by omega, by omega⟩ (by simp) RX.nils RX.nils)) (by simp) rfl (by omega))
 have hZ : RX w0 [] w [treeD wT] [.int .i64 (6), .string (bs ([])), .slice (some ⟨b65, 0, none⟩) (2) (2), .slice (some ⟨b66, 0, none⟩) (2) (2)] := RX.tree ⟨by omega, by omega⟩ (by simp) (hF.rowX 1 rfl (RX.strs (ks := [[98], [97]]) (by simp)) (by simp) rfl (by omega)) (hF.rowX 0 rfl (RX.append (ds := [_]) hR (RX.str _ (by simp))) (by simp) rfl (by omega))
 exact e_inv ⟨(b64), ([.int .i64 (6), .string (bs ([])), .slice (some ⟨b65, 0, none⟩) (2) (2), .slice (some ⟨b66, 0, none⟩) (2) (2)]), (rfl), (by simp [one]), (hZ), ⟨rfl, trivial⟩, (((((hF.front 4 rfl).front 3 rfl).erase 2).erase 2).erase 2)⟩
 refine f_new rfl (v := fun b => .slice (some ⟨b, 0, none⟩) 2 2) hF (x_buildSlice (cs := #[.int .i64 (5), .string (bs ([])), .slice (none) (0) (0), .slice (some ⟨b33, 0, none⟩) (2) (2), .int .i64 (4), .string (bs ([120])), .slice (none) (0) (0), .slice (none) (0) (0)]) Tryz.underlying23 Tryz.sizeOf25 Tryz.zeroValue25 (by decide) (by decide) (by kernel_rfl)) ?_
 clear hF; rintro b67 w hb67 hF -
 refine ⟨hF.sub (.cons _ (.cons _ (.cons _ (.cons_cons _ .slnil)))), ?_⟩
 refine f_new rfl (v := fun b => .slice (some ⟨b, 0, none⟩) 2 2) hF (x_buildSlice (cs := #[.string (bs ([98])), .string (bs ([97]))]) Tryz.underlying22 Tryz.sizeOf9 Tryz.zeroValue9 (by decide) (by decide) (by kernel_rfl)) ?_
 clear hF; rintro b68 w hb68 hF -
 refine ⟨hF.sub (.cons _ (.cons _ (.cons _ (.cons _ (.cons_cons _ .slnil))))), ?_⟩
 refine f_call rfl (map_c (some ⟨b68, 0, none⟩) 2 2 (some ⟨b67, 0, none⟩) 2 2 _) (x_call2 en_49 rfl rfl rfl) ?_
 rintro _ w ⟨rfl, hE⟩
 replace hF := hF.ext hE
 clear hE
 refine ⟨hF.sub (.cons _ (.cons _ (.cons _ (.cons _ (.cons_cons _ .slnil))))), ?_⟩
 refine f_storez rfl 2 (l := [.int .i64 (6), .string (bs ([])), .slice (some ⟨b68, 0, none⟩) (2) (2), .slice (some ⟨b67, 0, none⟩) (2) (2)]) (cs' := #[.int .i64 (6), .string (bs ([])), .slice (some ⟨b68, 0, none⟩) (2) (2), .slice (some ⟨b67, 0, none⟩) (2) (2)]) hF Tryz.sizeOf25 rfl (v := .agg #[.int .i64 (6), .string (bs ([])), .slice (some ⟨b68, 0, none⟩) (2) (2), .slice (some ⟨b67, 0, none⟩) (2) (2)]) rfl rfl (by simp [one]) rfl (Nat.le_of_ble_eq_true rfl) rfl ?_
 clear hF; rintro w hF -
 replace hF : FR w0 [] [(b68, .cells #[.string (bs ([98])), .string (bs ([97]))] 9), (b67, .cells #[.int .i64 (5), .string (bs ([])), .slice (none) (0) (0), .slice (some ⟨b33, 0, none⟩) (2) (2), .int .i64 (4), .string (bs ([120])), .slice (none) (0) (0), .slice (none) (0) (0)] 25), (b64, .cells #[.int .i64 (6), .string (bs ([])), .slice (some ⟨b68, 0, none⟩) (2) (2), .slice (some ⟨b67, 0, none⟩) (2) (2)] 25), (b33, .cells #[.int .i64 (3), .string (bs ([49])), .slice (none) (0) (0), .slice (none) (0) (0), .int .i64 (1), .string (bs ([])), .slice (none) (0) (0), .slice (none) (0) (0)] 25), (b1, .cells #[.int .i64 (1), .string (bs ([])), .slice (none) (0) (0), .slice (none) (0) (0)] 25)] w := hF
 refine d_nil ?_
 have hR : RX w0 [] w [treeD rwT] [.int .i64 (5), .string (bs ([])), .slice (none) (0) (0), .slice (some ⟨b33, 0, none⟩) (2) (2)] := RX.tree ⟨by omega, by omega⟩ (by simp) RX.nils (hF.rowX 3 rfl (RX.append (ds := [_]) (RX.num _ (by simp)) (RX.tree ⟨by omega, by omega⟩ (by simp) RX.nils RX.nils)) (by simp) rfl (by omega))
 have hZ : RX w0 [] w [treeD wT] [.int .i64 (6), .string (bs ([])), .slice (some ⟨b68, 0, none⟩) (2) (2), .slice (some ⟨b67, 0, none⟩) (2) (2)] := RX.tree ⟨by omega, by omega⟩ (by simp) (hF.rowX 0 rfl (RX.strs (ks := [[98], [97]]) (by simp)) (by simp) rfl (by omega)) (hF.rowX 1 rfl (RX.append (ds := [_]) hR (RX.str _ (by simp))) (by simp) rfl (by omega))
 exact e_inv ⟨(b64), ([.int .i64 (6), .string (bs ([])), .slice (some ⟨b68, 0, none⟩) (2) (2), .slice (some ⟨b67, 0, none⟩) (2) (2)]), (rfl), (by simp [one]), (hZ), ⟨rfl, trivial⟩, (((((hF.front 4 rfl).front 3 rfl).erase 2).erase 2).erase 2)⟩
 refine f_new rfl (v := fun b => .pointer (some ⟨b, 0, none⟩)) (o := .cells #[.int .i64 (0), .string (bs ([])), .slice (none) (0) (0), .slice (none) (0) (0)] 25) hF (x_alloc Tryz.zeroValue25) ?_
 clear hF; rintro b69 w hb69 hF -
 refine ⟨hF.sub (.cons _ (.cons _ (.cons_cons _ .slnil))), ?_⟩
 refine d_alt ?_ ?_
 refine f_new rfl (v := fun b => .slice (some ⟨b, 0, none⟩) 2 2) hF (x_buildSlice (cs := #[.string (bs ([98])), .string (bs ([97]))]) Tryz.underlying22 Tryz.sizeOf9 Tryz.zeroValue9 (by decide) (by decide) (by kernel_rfl)) ?_
 clear hF; rintro b70 w hb70 hF -
 refine ⟨hF.sub (.cons _ (.cons _ (.cons _ (.cons_cons _ .slnil)))), ?_⟩
 refine f_call rfl (of_c [120] _) (x_call1 en_25 rfl rfl) ?_
 rintro _ w ⟨rfl, hE⟩
 replace hF := hF.ext hE
 clear hE
 refine ⟨hF.sub (.cons _ (.cons _ (.cons _ (.cons_cons _ .slnil)))), ?_⟩
 refine f_new rfl (v := fun b => .slice (some ⟨b, 0, none⟩) 2 2) hF (x_buildSlice (cs := #[.int .i64 (5), .string (bs ([])), .slice (none) (0) (0), .slice (some ⟨b33, 0, none⟩) (2) (2), .int .i64 (4), .string (bs ([120])), .slice (none) (0) (0), .slice (none) (0) (0)]) Tryz.underlying23 Tryz.sizeOf25 Tryz.zeroValue25 (by decide) (by decide) (by kernel_rfl)) ?_
 clear hF; rintro b71 w hb71 hF -
 refine ⟨hF.sub (.cons _ (.cons _ (.cons _ (.cons _ (.cons_cons _ .slnil))))), ?_⟩
 refine f_call rfl (map_c (some ⟨b70, 0, none⟩) 2 2 (some ⟨b71, 0, none⟩) 2 2 _) (x_call2 en_49 rfl rfl rfl) ?_
 rintro _ w ⟨rfl, hE⟩
 replace hF := hF.ext hE
 clear hE
 refine ⟨hF.sub (.cons _ (.cons _ (.cons _ (.cons _ (.cons_cons _ .slnil))))), ?_⟩
 refine f_storez rfl 2 (l := [.int .i64 (6), .string (bs ([])), .slice (some ⟨b70, 0, none⟩) (2) (2), .slice (some ⟨b71, 0, none⟩) (2) (2)]) (cs' := #[.int .i64 (6), .string (bs ([])), .slice (some ⟨b70, 0, none⟩) (2) (2), .slice (some ⟨b71, 0, none⟩) (2) (2)]) hF Tryz.sizeOf25 rfl (v := .agg #[.int .i64 (6), .string (bs ([])), .slice (some ⟨b70, 0, none⟩) (2) (2), .slice (some ⟨b71, 0, none⟩) (2) (2)]) rfl rfl (by simp [one]) rfl (Nat.le_of_ble_eq_true rfl) rfl ?_
 clear hF; rintro w hF -
 replace hF : FR w0 [] [(b71, .cells #[.int .i64 (5), .string (bs ([])), .slice (none) (0) (0), .slice (some ⟨b33, 0, none⟩) (2) (2), .int .i64 (4), .string (bs ([120])), .slice (none) (0) (0), .slice (none) (0) (0)] 25), (b70, .cells #[.string (bs ([98])), .string (bs ([97]))] 9), (b69, .cells #[.int .i64 (6), .string (bs ([])), .slice (some ⟨b70, 0, none⟩) (2) (2), .slice (some ⟨b71, 0, none⟩) (2) (2)] 25), (b33, .cells #[.int .i64 (3), .string (bs ([49])), .slice (none) (0) (0), .slice (none) (0) (0), .int .i64 (1), .string (bs ([])), .slice (none) (0) (0), .slice (none) (0) (0)] 25), (b1, .cells #[.int .i64 (1), .string (bs ([])), .slice (none) (0) (0), .slice (none) (0) (0)] 25)] w := hF
 refine d_nil ?_
 have hR : RX w0 [] w [treeD rwT] [.int .i64 (5), .string (bs ([])), .slice (none) (0) (0), .slice (some ⟨b33, 0, none⟩) (2) (2)] := RX.tree ⟨by omega, by omega⟩ (by simp) RX.nils (hF.rowX 3 rfl (RX.append (ds := [_]) (RX.num _ (by simp)) (RX.tree ⟨by omega, by omega⟩ (by simp) RX.nils RX.nils)) (by simp) rfl (by omega))
 have hZ : RX w0 [] w [treeD wT] [.int .i64 (6), .string (bs ([])), .slice (some ⟨b70, 0, none⟩) (2) (2), .slice (some ⟨b71, 0, none⟩) (2) (2)] := RX.tree ⟨by omega, by omega⟩ (by simp) (hF.rowX 1 rfl (RX.strs (ks := [[98], [97]]) (by simp)) (by simp) rfl (by omega)) (hF.rowX 0 rfl (RX.append (ds := [_]) hR (RX.str _ (by simp))) (by simp) rfl (by omega))
 exact e_inv ⟨(b69), ([.int .i64 (6), .string (bs ([])), .slice (some ⟨b70, 0, none⟩) (2) (2), .slice (some ⟨b71, 0, none⟩) (2) (2)]), (rfl), (by simp [one]), (hZ), ⟨rfl, trivial⟩, (((((hF.front 4 rfl).front 3 rfl).erase 2).erase 2).erase 2)⟩
 refine f_call rfl (of_c [120] _) (x_call1 en_25 rfl rfl) ?_
 rintro _ w ⟨rfl, hE⟩
 replace hF := hF.ext hE
 clear hE
 refine ⟨hF.sub (.cons _ (.cons _ (.cons_cons _ .slnil))), ?_⟩
 refine d_alt ?_ ?_
 refine f_new rfl (v := fun b => .slice (some ⟨b, 0, none⟩) 2 2) hF (x_buildSlice (cs := #[.string (bs ([98])), .string (bs ([97]))]) Tryz.underlying22 Tryz.sizeOf9 Tryz.zeroValue9 (by decide) (by decide) (by kernel_rfl)) ?_
 clear hF; rintro b72 w hb72 hF -
 refine ⟨hF.sub (.cons _ (.cons _ (.cons _ (.cons_cons _ .slnil)))), ?_⟩
 refine f_new rfl (v := fun b => .slice (some ⟨b, 0, none⟩) 2 2) hF (x_buildSlice (cs := #[.int .i64 (5), .string (bs ([])), .slice (none) (0) (0), .slice (some ⟨b33, 0, none⟩) (2) (2), .int .i64 (4), .string (bs ([120])), .slice (none) (0) (0), .slice (none) (0) (0)]) Tryz.underlying23 Tryz.sizeOf25 Tryz.zeroValue25 (by decide) (by decide) (by kernel_rfl)) ?_
 clear hF; rintro b73 w hb73 hF -
 refine ⟨hF.sub (.cons _ (.cons _ (.cons _ (.cons _ (.cons_cons _ .slnil))))), ?_⟩
 refine f_call rfl (map_c (some ⟨b72, 0, none⟩) 2 2 (some ⟨b73, 0, none⟩) 2 2 _) (x_call2 en_49 rfl rfl rfl) ?_
 rintro _ w ⟨rfl, hE⟩
 replace hF := hF.ext hE
 clear hE
 refine ⟨hF.sub (.cons _ (.cons _ (.cons _ (.cons _ (.cons_cons _ .slnil))))), ?_⟩
 refine f_storez rfl 2 (l := [.int .i64 (6), .string (bs ([])), .slice (some ⟨b72, 0, none⟩) (2) (2), .slice (some ⟨b73, 0, none⟩) (2) (2)]) (cs' := #[.int .i64 (6), .string (bs ([])), .slice (some ⟨b72, 0, none⟩) (2) (2), .slice (some ⟨b73, 0, none⟩) (2) (2)]) hF Tryz.sizeOf25 rfl (v := .agg #[.int .i64 (6), .string (bs ([])), .slice (some ⟨b72, 0, none⟩) (2) (2), .slice (some ⟨b73, 0, none⟩) (2) (2)]) rfl rfl (by simp [one]) rfl (Nat.le_of_ble_eq_true rfl) rfl ?_
 clear hF; rintro w hF -
 replace hF : FR w0 [] [(b73, .cells #[.int .i64 (5), .string (bs ([])), .slice (none) (0) (0), .slice (some ⟨b33, 0, none⟩) (2) (2), .int .i64 (4), .string (bs ([120])), .slice (none) (0) (0), .slice (none) (0) (0)] 25), (b72, .cells #[.string (bs ([98])), .string (bs ([97]))] 9), (b69, .cells #[.int .i64 (6), .string (bs ([])), .slice (some ⟨b72, 0, none⟩) (2) (2), .slice (some ⟨b73, 0, none⟩) (2) (2)] 25), (b33, .cells #[.int .i64 (3), .string (bs ([49])), .slice (none) (0) (0), .slice (none) (0) (0), .int .i64 (1), .string (bs ([])), .slice (none) (0) (0), .slice (none) (0) (0)] 25), (b1, .cells #[.int .i64 (1), .string (bs ([])), .slice (none) (0) (0), .slice (none) (0) (0)] 25)] w := hF
 refine d_nil ?_
 have hR : RX w0 [] w [treeD rwT] [.int .i64 (5), .string (bs ([])), .slice (none) (0) (0), .slice (some ⟨b33, 0, none⟩) (2) (2)] := RX.tree ⟨by omega, by omega⟩ (by simp) RX.nils (hF.rowX 3 rfl (RX.append (ds := [_]) (RX.num _ (by simp)) (RX.tree ⟨by omega, by omega⟩ (by simp) RX.nils RX.nils)) (by simp) rfl (by omega))
 have hZ : RX w0 [] w [treeD wT] [.int .i64 (6), .string (bs ([])), .slice (some ⟨b72, 0, none⟩) (2) (2), .slice (some ⟨b73, 0, none⟩) (2) (2)] := RX.tree ⟨by omega, by omega⟩ (by simp) (hF.rowX 1 rfl (RX.strs (ks := [[98], [97]]) (by simp)) (by simp) rfl (by omega)) (hF.rowX 0 rfl (RX.append (ds := [_]) hR (RX.str _ (by simp))) (by simp) rfl (by omega))
 exact e_inv ⟨(b69), ([.int .i64 (6), .string (bs ([])), .slice (some ⟨b72, 0, none⟩) (2) (2), .slice (some ⟨b73, 0, none⟩) (2) (2)]), (rfl), (by simp [one]), (hZ), ⟨rfl, trivial⟩, (((((hF.front 4 rfl).front 3 rfl).erase 2).erase 2).erase 2)⟩
 refine f_new rfl (v := fun b => .slice (some ⟨b, 0, none⟩) 2 2) hF (x_buildSlice (cs := #[.int .i64 (5), .string (bs ([])), .slice (none) (0) (0), .slice (some ⟨b33, 0, none⟩) (2) (2), .int .i64 (4), .string (bs ([120])), .slice (none) (0) (0), .slice (none) (0) (0)]) Tryz.underlying23 Tryz.sizeOf25 Tryz.zeroValue25 (by decide) (by decide) (by kernel_rfl)) ?_
 clear hF; rintro b74 w hb74 hF -
 refine ⟨hF.sub (.cons _ (.cons _ (.cons _ (.cons_cons _ .slnil)))), ?_⟩
 refine f_new rfl (v := fun b => .slice (some ⟨b, 0, none⟩) 2 2) hF (x_buildSlice (cs := #[.string (bs ([98])), .string (bs ([97]))]) Tryz.underlying22 Tryz.sizeOf9 Tryz.zeroValue9 (by decide) (by decide) (by kernel_rfl)) ?_
 clear hF; rintro b75 w hb75 hF -
 refine ⟨hF.sub (.cons _ (.cons _ (.cons _ (.cons _ (.cons_cons _ .slnil))))), ?_⟩
 refine f_call rfl (map_c (some ⟨b75, 0, none⟩) 2 2 (some ⟨b74, 0, none⟩) 2 2 _) (x_call2 en_49 rfl rfl rfl) ?_
 rintro _ w ⟨rfl, hE⟩
 replace hF := hF.ext hE
 clear hE
 refine ⟨hF.sub (.cons _ (.cons _ (.cons _ (.cons _ (.cons_cons _ .slnil))))), ?_⟩
 refine f_storez rfl 2 (l := [.int .i64 (6), .string (bs ([])), .slice (some ⟨b75, 0, none⟩) (2) (2), .slice (some ⟨b74, 0, none⟩) (2) (2)]) (cs' := #[.int .i64 (6), .string (bs ([])), .slice (some ⟨b75, 0, none⟩) (2) (2), .slice (some ⟨b74, 0, none⟩) (2) (2)]) hF Tryz.sizeOf25 rfl (v := .agg #[.int .i64 (6), .string (bs ([])), .slice (some ⟨b75, 0, none⟩) (2) (2), .slice (some ⟨b74, 0, none⟩) (2) (2)]) rfl rfl (by simp [one]) rfl (Nat.le_of_ble_eq_true rfl) rfl ?_
 clear hF; rintro w hF -
 replace hF : FR w0 [] [(b75, .cells #[.string (bs ([98])), .string (bs ([97]))] 9), (b74, .cells #[.int .i64 (5), .string (bs ([])), .slice (none) (0) (0), .slice (some ⟨b33, 0, none⟩) (2) (2), .int .i64 (4), .string (bs ([120])), .slice (none) (0) (0), .slice (none) (0) (0)] 25), (b69, .cells #[.int .i64 (6), .string (bs ([])), .slice (some ⟨b75, 0, none⟩) (2) (2), .slice (some ⟨b74, 0, none⟩) (2) (2)] 25), (b33, .cells #[.int .i64 (3), .string (bs ([49])), .slice (none) (0) (0), .slice (none) (0) (0), .int .i64 (1), .string (bs ([])), .slice (none) (0) (0), .slice (none) (0) (0)] 25), (b1, .cells #[.int .i64 (1), .string (bs ([])), .slice (none) (0) (0), .slice (none) (0) (0)] 25)] w := hF
 refine d_nil ?_
 have hR : RX w0 [] w [treeD rwT] [.int .i64 (5), .string (bs ([])), .slice (none) (0) (0), .slice (some ⟨b33, 0, none⟩) (2) (2)] := RX.tree ⟨by omega, by omega⟩ (by simp) RX.nils (hF.rowX 3 rfl (RX.append (ds := [_]) (RX.num _ (by simp)) (RX.tree ⟨by omega, by omega⟩ (by simp) RX.nils RX.nils)) (by simp) rfl (by omega))
 have hZ : RX w0 [] w [treeD wT] [.int .i64 (6), .string (bs ([])), .slice (some ⟨b75, 0, none⟩) (2) (2), .slice (some ⟨b74, 0, none⟩) (2) (2)] := RX.tree ⟨by omega, by omega⟩ (by simp) (hF.rowX 0 rfl (RX.strs (ks := [[98], [97]]) (by simp)) (by simp) rfl (by omega)) (hF.rowX 1 rfl (RX.append (ds := [_]) hR (RX.str _ (by simp))) (by simp) rfl (by omega))
 exact e_inv ⟨(b69), ([.int .i64 (6), .string (bs ([])), .slice (some ⟨b75, 0, none⟩) (2) (2), .slice (some ⟨b74, 0, none⟩) (2) (2)]), (rfl), (by simp [one]), (hZ), ⟨rfl, trivial⟩, (((((hF.front 4 rfl).front 3 rfl).erase 2).erase 2).erase 2)⟩
 refine f_new rfl (v := fun b => .pointer (some ⟨b, 0, none⟩)) (o := .cells #[.int .i64 (0), .string (bs ([])), .slice (none) (0) (0), .slice (none) (0) (0)] 25) hF (x_alloc Tryz.zeroValue25) ?_
 clear hF; rintro b76 w hb76 hF -
 refine ⟨hF.sub (.cons _ (.cons _ (.cons_cons _ .slnil))), ?_⟩
 refine d_alt ?_ ?_
 refine f_new rfl (v := fun b => .slice (some ⟨b, 0, none⟩) 2 2) hF (x_buildSlice (cs := #[.string (bs ([98])), .string (bs ([97]))]) Tryz.underlying22 Tryz.sizeOf9 Tryz.zeroValue9 (by decide) (by decide) (by kernel_rfl)) ?_
 clear hF; rintro b77 w hb77 hF -
 refine ⟨hF.sub (.cons _ (.cons _ (.cons _ (.cons_cons _ .slnil)))), ?_⟩
 refine f_call rfl (row_c (some ⟨b33, 0, none⟩) 2 2 _) (x_call1 en_43 rfl rfl) ?_
 rintro _ w ⟨rfl, hE⟩
 replace hF := hF.ext hE
 clear hE
 refine ⟨hF.sub (.cons _ (.cons _ (.cons _ (.cons_cons _ .slnil)))), ?_⟩
 refine f_call rfl (of_c [120] _) (x_call1 en_25 rfl rfl) ?_
 rintro _ w ⟨rfl, hE⟩
 replace hF := hF.ext hE
 clear hE
 refine ⟨hF.sub (.cons _ (.cons _ (.cons _ (.cons_cons _ .slnil)))), ?_⟩
 refine f_new rfl (v := fun b => .slice (some ⟨b, 0, none⟩) 2 2) hF (x_buildSlice (cs := #[.int .i64 (5), .string (bs ([])), .slice (none) (0) (0), .slice (some ⟨b33, 0, none⟩) (2) (2), .int .i64 (4), .string (bs ([120])), .slice (none) (0) (0), .slice (none) (0) (0)]) Tryz.underlying23 Tryz.sizeOf25 Tryz.zeroValue25 (by decide) (by decide) (by kernel_rfl)) ?_
 clear hF; rintro b78 w hb78 hF -
 refine ⟨hF.sub (.cons _ (.cons _ (.cons _ (.cons _ (.cons_cons _ .slnil))))), ?_⟩
 refine f_call rfl (map_c (some ⟨b77, 0, none⟩) 2 2 (some ⟨b78, 0, none⟩) 2 2 _) (x_call2 en_49 rfl rfl rfl) ?_
 rintro _ w ⟨rfl, hE⟩
 replace hF := hF.ext hE
 clear hE
 refine ⟨hF.sub (.cons _ (.cons _ (.cons _ (.cons _ (.cons_cons _ .slnil))))), ?_⟩
 refine f_storez rfl 2 (l := [.int .i64 (6), .string (bs ([])), .slice (some ⟨b77, 0, none⟩) (2) (2), .slice (some ⟨b78, 0, none⟩) (2) (2)]) (cs' := #[.int .i64 (6), .string (bs ([])), .slice (some ⟨b77, 0, none⟩) (2) (2), .slice (some ⟨b78, 0, none⟩) (2) (2)]) hF Tryz.sizeOf25 rfl (v := .agg #[.int .i64 (6), .string (bs ([])), .slice (some ⟨b77, 0, none⟩) (2) (2), .slice (some ⟨b78, 0, none⟩) (2) (2)]) rfl rfl (by simp [one]) rfl (Nat.le_of_ble_eq_true rfl) rfl ?_
 clear hF; rintro w hF -
 replace hF : FR w0 [] [(b78, .cells #[.int .i64 (5), .string (bs ([])), .slice (none) (0) (0), .slice (some ⟨b33, 0, none⟩) (2) (2), .int .i64 (4), .string (bs ([120])), .slice (none) (0) (0), .slice (none) (0) (0)] 25), (b77, .cells #[.string (bs ([98])), .string (bs ([97]))] 9), (b76, .cells #[.int .i64 (6), .string (bs ([])), .slice (some ⟨b77, 0, none⟩) (2) (2), .slice (some ⟨b78, 0, none⟩) (2) (2)] 25), (b33, .cells #[.int .i64 (3), .string (bs ([49])), .slice (none) (0) (0), .slice (none) (0) (0), .int .i64 (1), .string (bs ([])), .slice (none) (0) (0), .slice (none) (0) (0)] 25), (b1, .cells #[.int .i64 (1), .string (bs ([])), .slice (none) (0) (0), .slice (none) (0) (0)] 25)] w := hF
 refine d_nil ?_
 have hR : RX w0 [] w [treeD rwT] [.int .i64 (5), .string (bs ([])), .slice (none) (0) (0), .slice (some ⟨b33, 0, none⟩) (2) (2)] := RX.tree ⟨by omega, by omega⟩ (by simp) RX.nils (hF.rowX 3 rfl (RX.append (ds := [_]) (RX.num _ (by simp)) (RX.tree ⟨by omega, by omega⟩ (by simp) RX.nils RX.nils)) (by simp) rfl (by omega))
 have hZ : RX w0 [] w [treeD wT] [.int .i64 (6), .string (bs ([])), .slice (some ⟨b77, 0, none⟩) (2) (2), .slice (some ⟨b78, 0, none⟩) (2) (2)] := RX.tree ⟨by omega, by omega⟩ (by simp) (hF.rowX 1 rfl (RX.strs (ks := [[98], [97]]) (by simp)) (by simp) rfl (by omega)) (hF.rowX 0 rfl (RX.append (ds := [_]) hR (RX.str _ (by simp))) (by simp) rfl (by omega))
 exact e_inv ⟨(b76), ([.int .i64 (6), .string (bs ([])), .slice (some ⟨b77, 0, none⟩) (2) (2), .slice (some ⟨b78, 0, none⟩) (2) (2)]), (rfl), (by simp [one]), (hZ), ⟨rfl, trivial⟩, (((((hF.front 4 rfl).front 3 rfl).erase 2).erase 2).erase 2)⟩
 refine f_call rfl (row_c (some ⟨b33, 0, none⟩) 2 2 _) (x_call1 en_43 rfl rfl) ?_
 rintro _ w ⟨rfl, hE⟩
 replace hF := hF.ext hE
 clear hE
 refine ⟨hF.sub (.cons _ (.cons _ (.cons_cons _ .slnil))), ?_⟩
 refine d_alt ?_ ?_
 refine f_new rfl (v := fun b => .slice (some ⟨b, 0, none⟩) 2 2) hF (x_buildSlice (cs := #[.string (bs ([98])), .string (bs ([97]))]) Tryz.underlying22 Tryz.sizeOf9 Tryz.zeroValue9 (by decide) (by decide) (by kernel_rfl)) ?_
 clear hF; rintro b79 w hb79 hF -
 refine ⟨hF.sub (.cons _ (.cons _ (.cons _ (.cons_cons _ .slnil)))), ?_⟩
 refine f_call rfl (of_c [120] _) (x_call1 en_25 rfl rfl) ?_
 rintro _ w ⟨rfl, hE⟩
 replace hF := hF.ext hE
 clear hE
 refine ⟨hF.sub (.cons _ (.cons _ (.cons _ (.cons_cons _ .slnil)))), ?_⟩
 refine f_new rfl (v := fun b => .slice (some ⟨b, 0, none⟩) 2 2) hF (x_buildSlice (cs := #[.int .i64 (5), .string (bs ([])), .slice (none) (0) (0), .slice (some ⟨b33, 0, none⟩) (2) (2), .int .i64 (4), .string (bs ([120])), .slice (none) (0) (0), .slice (none) (0) (0)]) Tryz.underlying23 Tryz.sizeOf25 Tryz.zeroValue25 (by decide) (by decide) (by kernel_rfl)) ?_
 clear hF; rintro b80 w hb80 hF -
 refine ⟨hF.sub (.cons _ (.cons _ (.cons _ (.cons _ (.cons_cons _ .slnil))))), ?_⟩
 refine f_call rfl (map_c (some ⟨b79, 0, none⟩) 2 2 (some ⟨b80, 0, none⟩) 2 2 _) (x_call2 en_49 rfl rfl rfl) ?_
 rintro _ w ⟨rfl, hE⟩
 replace hF := hF.ext hE
 clear hE
 refine ⟨hF.sub (.cons _ (.cons _ (.cons _ (.cons _ (.cons_cons _ .slnil))))), ?_⟩
 refine f_storez rfl 2 (l := [.int .i64 (6), .string (bs ([])), .slice (some ⟨b79, 0, none⟩) (2) (2), .slice (some ⟨b80, 0, none⟩) (2) (2)]) (cs' := #[.int .i64 (6), .string (bs ([])), .slice (some ⟨b79, 0, none⟩) (2) (2), .slice (some ⟨b80, 0, none⟩) (2) (2)]) hF Tryz.sizeOf25 rfl (v := .agg #[.int .i64 (6), .string (bs ([])), .slice (some ⟨b79, 0, none⟩) (2) (2), .slice (some ⟨b80, 0, none⟩) (2) (2)]) rfl rfl (by simp [one]) rfl (Nat.le_of_ble_eq_true rfl) rfl ?_
 clear hF; rintro w hF -
 replace hF : FR w0 [] [(b80, .cells #[.int .i64 (5), .string (bs ([])), .slice (none) (0) (0), .slice (some ⟨b33, 0, none⟩) (2) (2), .int .i64 (4), .string (bs ([120])), .slice (none) (0) (0), .slice (none) (0) (0)] 25), (b79, .cells #[.string (bs ([98])), .string (bs ([97]))] 9), (b76, .cells #[.int .i64 (6), .string (bs ([])), .slice (some ⟨b79, 0, none⟩) (2) (2), .slice (some ⟨b80, 0, none⟩) (2) (2)] 25), (b33, .cells #[.int .i64 (3), .string (bs ([49])), .slice (none) (0) (0), .slice (none) (0) (0), .int .i64 (1), .string (bs ([])), .slice (none) (0) (0), .slice (none) (0) (0)] 25), (b1, .cells #[.int .i64 (1), .string (bs ([])), .slice (none) (0) (0), .slice (none) (0) (0)] 25)] w := hF
 refine d_nil ?_
 have hR : RX w0 [] w [treeD rwT] [.int .i64 (5), .string (bs ([])), .slice (none) (0) (0), .slice (some ⟨b33, 0, none⟩) (2) (2)] := RX.tree ⟨by omega, by omega⟩ (by simp) RX.nils (hF.rowX 3 rfl (RX.append (ds := [_]) (RX.num _ (by simp)) (RX.tree ⟨by omega, by omega⟩ (by simp) RX.nils RX.nils)) (by simp) rfl (by omega))
 have hZ : RX w0 [] w [treeD wT] [.int .i64 (6), .string (bs ([])), .slice (some ⟨b79, 0, none⟩) (2) (2), .slice (some ⟨b80, 0, none⟩) (2) (2)] := RX.tree ⟨by omega, by omega⟩ (by simp) (hF.rowX 1 rfl (RX.strs (ks := [[98], [97]]) (by simp)) (by simp) rfl (by omega)) (hF.rowX 0 rfl (RX.append (ds := [_]) hR (RX.str _ (by simp))) (by simp) rfl (by omega))
 exact e_inv ⟨(b76), ([.int .i64 (6), .string (bs ([])), .slice (some ⟨b79, 0, none⟩) (2) (2), .slice (some ⟨b80, 0, none⟩) (2) (2)]), (rfl), (by simp [one]), (hZ), ⟨rfl, trivial⟩, (((((hF.front 4 rfl).front 3 rfl).erase 2).erase 2).erase 2)⟩
 refine f_call rfl (of_c [120] _) (x_call1 en_25 rfl rfl) ?_
 rintro _ w ⟨rfl, hE⟩
 replace hF := hF.ext hE
 clear hE
 refine ⟨hF.sub (.cons _ (.cons _ (.cons_cons _ .slnil))), ?_⟩
 refine d_alt ?_ ?_
 refine f_new rfl (v := fun b => .slice (some ⟨b, 0, none⟩) 2 2) hF (x_buildSlice (cs := #[.string (bs ([98])), .string (bs ([97]))]) Tryz.underlying22 Tryz.sizeOf9 Tryz.zeroValue9 (by decide) (by decide) (by kernel_rfl)) ?_
 clear hF; rintro b81 w hb81 hF -
 refine ⟨hF.sub (.cons _ (.cons _ (.cons _ (.cons_cons _ .slnil)))), ?_⟩
 refine f_new rfl (v := fun b => .slice (some ⟨b, 0, none⟩) 2 2) hF (x_buildSlice (cs := #[.int .i64 (5), .string (bs ([])), .slice (none) (0) (0), .slice (some ⟨b33, 0, none⟩) (2) (2), .int .i64 (4), .string (bs ([120])), .slice (none) (0) (0), .slice (none) (0) (0)]) Tryz.underlying23 Tryz.sizeOf25 Tryz.zeroValue25 (by decide) (by decide) (by kernel_rfl)) ?_
 clear hF; rintro b82 w hb82 hF -
 refine ⟨hF.sub (.cons _ (.cons _ (.cons _ (.cons _ (.cons_cons _ .slnil))))), ?_⟩
 refine f_call rfl (map_c (some ⟨b81, 0, none⟩) 2 2 (some ⟨b82, 0, none⟩) 2 2 _) (x_call2 en_49 rfl rfl rfl) ?_
 rintro _ w ⟨rfl, hE⟩
 replace hF := hF.ext hE
 clear hE
 refine ⟨hF.sub (.cons _ (.cons _ (.cons _ (.cons _ (.cons_cons _ .slnil))))), ?_⟩
 refine f_storez rfl 2 (l := [.int .i64 (6), .string (bs ([])), .slice (some ⟨b81, 0, none⟩) (2) (2), .slice (some ⟨b82, 0, none⟩) (2) (2)]) (cs' := #[.int .i64 (6), .string (bs ([])), .slice (some ⟨b81, 0, none⟩) (2) (2), .slice (some ⟨b82, 0, none⟩) (2) (2)]) hF Tryz.sizeOf25 rfl (v := .agg #[.int .i64 (6), .string (bs ([])), .slice (some ⟨b81, 0, none⟩) (2) (2), .slice (some ⟨b82, 0, none⟩) (2) (2)]) rfl rfl (by simp [one]) rfl (Nat.le_of_ble_eq_true rfl) rfl ?_
 clear hF; rintro w hF -
 replace hF : FR w0 [] [(b82, .cells #[.int .i64 (5), .string (bs ([])), .slice (none) (0) (0), .slice (some ⟨b33, 0, none⟩) (2) (2), .int .i64 (4), .string (bs ([120])), .slice (none) (0) (0), .slice (none) (0) (0)] 25), (b81, .cells #[.string (bs ([98])), .string (bs ([97]))] 9), (b76, .cells #[.int .i64 (6), .string (bs ([])), .slice (some ⟨b81, 0, none⟩) (2) (2), .slice (some ⟨b82, 0, none⟩) (2) (2)] 25), (b33, .cells #[.int .i64 (3), .string (bs ([49])), .slice (none) (0) (0), .slice (none) (0) (0), .int .i64 (1), .string (bs ([])), .slice (none) (0) (0), .slice (none) (0) (0)] 25), (b1, .cells #[.int .i64 (1), .string (bs ([])), .slice (none) (0) (0), .slice (none) (0) (0)] 25)] w := hF
 refine d_nil ?_
 have hR : RX w0 [] w [treeD rwT] [.int .i64 (5), .string (bs ([])), .slice (none) (0) (0), .slice (some ⟨b33, 0, none⟩) (2) (2)] := RX.tree ⟨by omega, by omega⟩ (by simp) RX.nils (hF.rowX 3 rfl (RX.append (ds := [_]) (RX.num _ (by simp)) (RX.tree ⟨by omega, by omega⟩ (by simp) RX.nils RX.nils)) (by simp) rfl (by omega))
 have hZ : RX w0 [] w [treeD wT] [.int .i64 (6), .string (bs ([])), .slice (some ⟨b81, 0, none⟩) (2) (2), .slice (some ⟨b82, 0, none⟩) (2) (2)] := RX.tree ⟨by omega, by omega⟩ (by simp) (hF.rowX 1 rfl (RX.strs (ks := [[98], [97]]) (by simp)) (by simp) rfl (by omega)) (hF.rowX 0 rfl (RX.append (ds := [_]) hR (RX.str _ (by simp))) (by simp) rfl (by omega))
 exact e_inv ⟨(b76), ([.int .i64 (6), .string (bs ([])), .slice (some ⟨b81, 0, none⟩) (2) (2), .slice (some ⟨b82, 0, none⟩) (2) (2)]), (rfl), (by simp [one]), (hZ), ⟨rfl, trivial⟩, (((((hF.front 4 rfl).front 3 rfl).erase 2).erase 2).erase 2)⟩
 refine f_new rfl (v := fun b => .slice (some ⟨b, 0, none⟩) 2 2) hF (x_buildSlice (cs := #[.int .i64 (5), .string (bs ([])), .slice (none) (0) (0), .slice (some ⟨b33, 0, none⟩) (2) (2), .int .i64 (4), .string (bs ([120])), .slice (none) (0) (0), .slice (none) (0) (0)]) Tryz.underlying23 Tryz.sizeOf25 Tryz.zeroValue25 (by decide) (by decide) (by kernel_rfl)) ?_
 clear hF; rintro b83 w hb83 hF -
 refine ⟨hF.sub (.cons _ (.cons _ (.cons _ (.cons_cons _ .slnil)))), ?_⟩
 refine f_new rfl (v := fun b => .slice (some ⟨b, 0, none⟩) 2 2) hF (x_buildSlice (cs := #[.string (bs ([98])), .string (bs ([97]))]) Tryz.underlying22 Tryz.sizeOf9 Tryz.zeroValue9 (by decide) (by decide) (by kernel_rfl)) ?_
 clear hF; rintro b84 w hb84 hF -
 refine ⟨hF.sub (.cons _ (.cons _ (.cons _ (.cons _ (.cons_cons _ .slnil))))), ?_⟩
 refine f_call rfl (map_c (some ⟨b84, 0, none⟩) 2 2 (some ⟨b83, 0, none⟩) 2 2 _) (x_call2 en_49 rfl rfl rfl) ?_
 rintro _ w ⟨rfl, hE⟩
 replace hF := hF.ext hE
 clear hE
 refine ⟨hF.sub (.cons _ (.cons _ (.cons _ (.cons _ (.cons_cons _ .slnil))))), ?_⟩
 refine f_storez rfl 2 (l := [.int .i64 (6), .string (bs ([])), .slice (some ⟨b84, 0, none⟩) (2) (2), .slice (some ⟨b83, 0, none⟩) (2) (2)]) (cs' := #[.int .i64 (6), .string (bs ([])), .slice (some ⟨b84, 0, none⟩) (2) (2), .slice (some ⟨b83, 0, none⟩) (2) (2)]) hF Tryz.sizeOf25 rfl (v := .agg #[.int .i64 (6), .string (bs ([])), .slice (some ⟨b84, 0, none⟩) (2) (2), .slice (some ⟨b83, 0, none⟩) (2) (2)]) rfl rfl (by simp [one]) rfl (Nat.le_of_ble_eq_true rfl) rfl ?_
 clear hF; rintro w hF -
 replace hF : FR w0 [] [(b84, .cells #[.string (bs ([98])), .string (bs ([97]))] 9), (b83, .cells #[.int .i64 (5), .string (bs ([])), .slice (none) (0) (0), .slice (some ⟨b33, 0, none⟩) (2) (2), .int .i64 (4), .string (bs ([120])), .slice (none) (0) (0), .slice (none) (0) (0)] 25), (b76, .cells #[.int .i64 (6), .string (bs ([])), .slice (some ⟨b84, 0, none⟩) (2) (2), .slice (some ⟨b83, 0, none⟩) (2) (2)] 25), (b33, .cells #[.int .i64 (3), .string (bs ([49])), .slice (none) (0) (0), .slice (none) (0) (0), .int .i64 (1), .string (bs ([])), .slice (none) (0) (0), .slice (none) (0) (0)] 25), (b1, .cells #[.int .i64 (1), .string (bs ([])), .slice (none) (0) (0), .slice (none) (0) (0)] 25)] w := hF
 refine d_nil ?_
 have hR : RX w0 [] w [treeD rwT] [.int .i64 (5), .string (bs ([])), .slice (none) (0) (0), .slice (some ⟨b33, 0, none⟩) (2) (2)] := RX.tree ⟨by omega, by omega⟩ (by simp) RX.nils (hF.rowX 3 rfl (RX.append (ds := [_]) (RX.num _ (by simp)) (RX.tree ⟨by omega, by omega⟩ (by simp) RX.nils RX.nils)) (by simp) rfl (by omega))
 have hZ : RX w0 [] w [treeD wT] [.int .i64 (6), .string (bs ([])), .slice (some ⟨b84, 0, none⟩) (2) (2), .slice (some ⟨b83, 0, none⟩) (2) (2)] := RX.tree ⟨by omega, by omega⟩ (by simp) (hF.rowX 0 rfl (RX.strs (ks := [[98], [97]]) (by simp)) (by simp) rfl (by omega)) (hF.rowX 1 rfl (RX.append (ds := [_]) hR (RX.str _ (by simp))) (by simp) rfl (by omega))
 exact e_inv ⟨(b76), ([.int .i64 (6), .string (bs ([])), .slice (some ⟨b84, 0, none⟩) (2) (2), .slice (some ⟨b83, 0, none⟩) (2) (2)]), (rfl), (by simp [one]), (hZ), ⟨rfl, trivial⟩, (((((hF.front 4 rfl).front 3 rfl).erase 2).erase 2).erase 2)⟩
 refine f_new rfl (v := fun b => .pointer (some ⟨b, 0, none⟩)) (o := .cells #[.int .i64 (0), .string (bs ([])), .slice (none) (0) (0), .slice (none) (0) (0)] 25) hF (x_alloc Tryz.zeroValue25) ?_
 clear hF; rintro b85 w hb85 hF -
 refine ⟨hF.sub (.cons _ (.cons_cons _ .slnil)), ?_⟩
 refine d_alt ?_ ?_
 refine f_new rfl (v := fun b => .slice (some ⟨b, 0, none⟩) 2 2) hF (x_buildSlice (cs := #[.string (bs ([98])), .string (bs ([97]))]) Tryz.underlying22 Tryz.sizeOf9 Tryz.zeroValue9 (by decide) (by decide) (by kernel_rfl)) ?_
 clear hF; rintro b86 w hb86 hF -
 refine ⟨hF.sub (.cons _ (.cons _ (.cons_cons _ .slnil))), ?_⟩
 refine f_new rfl (v := fun b => .slice (some ⟨b, 0, none⟩) 2 2) hF (x_buildSlice (cs := #[.int .i64 (3), .string (bs ([49])), .slice (none) (0) (0), .slice (none) (0) (0), .int .i64 (1), .string (bs ([])), .slice (none) (0) (0), .slice (none) (0) (0)]) Tryz.underlying23 Tryz.sizeOf25 Tryz.zeroValue25 (by decide) (by decide) (by kernel_rfl)) ?_
 clear hF; rintro b87 w hb87 hF -
 refine ⟨hF.sub (.cons _ (.cons _ (.cons _ (.cons_cons _ .slnil)))), ?_⟩
 refine f_call rfl (row_c (some ⟨b87, 0, none⟩) 2 2 _) (x_call1 en_43 rfl rfl) ?_
 rintro _ w ⟨rfl, hE⟩
 replace hF := hF.ext hE
 clear hE
 refine ⟨hF.sub (.cons _ (.cons _ (.cons _ (.cons_cons _ .slnil)))), ?_⟩
 refine f_call rfl (of_c [120] _) (x_call1 en_25 rfl rfl) ?_
 rintro _ w ⟨rfl, hE⟩
 replace hF := hF.ext hE
 clear hE
 refine ⟨hF.sub (.cons _ (.cons _ (.cons _ (.cons_cons _ .slnil)))), ?_⟩
 refine f_new rfl (v := fun b => .slice (some ⟨b, 0, none⟩) 2 2) hF (x_buildSlice (cs := #[.int .i64 (5), .string (bs ([])), .slice (none) (0) (0), .slice (some ⟨b87, 0, none⟩) (2) (2), .int .i64 (4), .string (bs ([120])), .slice (none) (0) (0), .slice (none) (0) (0)]) Tryz.underlying23 Tryz.sizeOf25 Tryz.zeroValue25 (by decide) (by decide) (by kernel_rfl)) ?_
 clear hF; rintro b88 w hb88 hF -
 refine ⟨hF.sub (.cons _ (.cons _ (.cons _ (.cons _ (.cons_cons _ .slnil))))), ?_⟩
 refine f_call rfl (map_c (some ⟨b86, 0, none⟩) 2 2 (some ⟨b88, 0, none⟩) 2 2 _) (x_call2 en_49 rfl rfl rfl) ?_
 rintro _ w ⟨rfl, hE⟩
 replace hF := hF.ext hE
 clear hE
 refine ⟨hF.sub (.cons _ (.cons _ (.cons _ (.cons _ (.cons_cons _ .slnil))))), ?_⟩
 refine f_storez rfl 3 (l := [.int .i64 (6), .string (bs ([])), .slice (some ⟨b86, 0, none⟩) (2) (2), .slice (some ⟨b88, 0, none⟩) (2) (2)]) (cs' := #[.int .i64 (6), .string (bs ([])), .slice (some ⟨b86, 0, none⟩) (2) (2), .slice (some ⟨b88, 0, none⟩) (2) (2)]) hF Tryz.sizeOf25 rfl (v := .agg #[.int .i64 (6), .string (bs ([])), .slice (some ⟨b86, 0, none⟩) (2) (2), .slice (some ⟨b88, 0, none⟩) (2) (2)]) rfl rfl (by simp [one]) rfl (Nat.le_of_ble_eq_true rfl) rfl ?_
 clear hF; rintro w hF -
 replace hF : FR w0 [] [(b88, .cells #[.int .i64 (5), .string (bs ([])), .slice (none) (0) (0), .slice (some ⟨b87, 0, none⟩) (2) (2), .int .i64 (4), .string (bs ([120])), .slice (none) (0) (0), .slice (none) (0) (0)] 25), (b87, .cells #[.int .i64 (3), .string (bs ([49])), .slice (none) (0) (0), .slice (none) (0) (0), .int .i64 (1), .string (bs ([])), .slice (none) (0) (0), .slice (none) (0) (0)] 25), (b86, .cells #[.string (bs ([98])), .string (bs ([97]))] 9), (b85, .cells #[.int .i64 (6), .string (bs ([])), .slice (some ⟨b86, 0, none⟩) (2) (2), .slice (some ⟨b88, 0, none⟩) (2) (2)] 25), (b1, .cells #[.int .i64 (1), .string (bs ([])), .slice (none) (0) (0), .slice (none) (0) (0)] 25)] w := hF
 refine d_nil ?_
 have hR : RX w0 [] w [treeD rwT] [.int .i64 (5), .string (bs ([])), .slice (none) (0) (0), .slice (some ⟨b87, 0, none⟩) (2) (2)] := RX.tree ⟨by omega, by omega⟩ (by simp) RX.nils (hF.rowX 1 rfl (RX.append (ds := [_]) (RX.num _ (by simp)) (RX.tree ⟨by omega, by omega⟩ (by simp) RX.nils RX.nils)) (by simp) rfl (by omega))
 have hZ : RX w0 [] w [treeD wT] [.int .i64 (6), .string (bs ([])), .slice (some ⟨b86, 0, none⟩) (2) (2), .slice (some ⟨b88, 0, none⟩) (2) (2)] := RX.tree ⟨by omega, by omega⟩ (by simp) (hF.rowX 2 rfl (RX.strs (ks := [[98], [97]]) (by simp)) (by simp) rfl (by omega)) (hF.rowX 0 rfl (RX.append (ds := [_]) hR (RX.str _ (by simp))) (by simp) rfl (by omega))
 exact e_inv ⟨(b85), ([.int .i64 (6), .string (bs ([])), .slice (some ⟨b86, 0, none⟩) (2) (2), .slice (some ⟨b88, 0, none⟩) (2) (2)]), (rfl), (by simp [one]), (hZ), ⟨rfl, trivial⟩, (((((hF.front 4 rfl).front 4 rfl).erase 2).erase 2).erase 2)⟩
 refine f_new rfl (v := fun b => .slice (some ⟨b, 0, none⟩) 2 2) hF (x_buildSlice (cs := #[.int .i64 (3), .string (bs ([49])), .slice (none) (0) (0), .slice (none) (0) (0), .int .i64 (1), .string (bs ([])), .slice (none) (0) (0), .slice (none) (0) (0)]) Tryz.underlying23 Tryz.sizeOf25 Tryz.zeroValue25 (by decide) (by decide) (by kernel_rfl)) ?_
 clear hF; rintro b89 w hb89 hF -
 refine ⟨hF.sub (.cons _ (.cons _ (.cons_cons _ .slnil))), ?_⟩
 refine d_alt ?_ ?_
 refine f_new rfl (v := fun b => .slice (some ⟨b, 0, none⟩) 2 2) hF (x_buildSlice (cs := #[.string (bs ([98])), .string (bs ([97]))]) Tryz.underlying22 Tryz.sizeOf9 Tryz.zeroValue9 (by decide) (by decide) (by kernel_rfl)) ?_
 clear hF; rintro b90 w hb90 hF -
 refine ⟨hF.sub (.cons _ (.cons _ (.cons _ (.cons_cons _ .slnil)))), ?_⟩
 refine f_call rfl (row_c (some ⟨b89, 0, none⟩) 2 2 _) (x_call1 en_43 rfl rfl) ?_
 rintro _ w ⟨rfl, hE⟩
 replace hF := hF.ext hE
 clear hE
 refine ⟨hF.sub (.cons _ (.cons _ (.cons _ (.cons_cons _ .slnil)))), ?_⟩
 refine f_call rfl (of_c [120] _) (x_call1 en_25 rfl rfl) ?_
 rintro _ w ⟨rfl, hE⟩
 replace hF := hF.ext hE
 clear hE
 refine ⟨hF.sub (.cons _ (.cons _ (.cons _ (.cons_cons _ .slnil)))), ?_⟩
 refine f_new rfl (v := fun b => .slice (some ⟨b, 0, none⟩) 2 2) hF (x_buildSlice (cs := #[.int .i64 (5), .string (bs ([])), .slice (none) (0) (0), .slice (some ⟨b89, 0, none⟩) (2) (2), .int .i64 (4), .string (bs ([120])), .slice (none) (0) (0), .slice (none) (0) (0)]) Tryz.underlying23 Tryz.sizeOf25 Tryz.zeroValue25 (by decide) (by decide) (by kernel_rfl)) ?_
 clear hF; rintro b91 w hb91 hF -
 refine ⟨hF.sub (.cons _ (.cons _ (.cons _ (.cons _ (.cons_cons _ .slnil))))), ?_⟩
 refine f_call rfl (map_c (some ⟨b90, 0, none⟩) 2 2 (some ⟨b91, 0, none⟩) 2 2 _) (x_call2 en_49 rfl rfl rfl) ?_
 rintro _ w ⟨rfl, hE⟩
 replace hF := hF.ext hE
 clear hE
 refine ⟨hF.sub (.cons _ (.cons _ (.cons _ (.cons _ (.cons_cons _ .slnil))))), ?_⟩
 refine f_storez rfl 3 (l := [.int .i64 (6), .string (bs ([])), .slice (some ⟨b90, 0, none⟩) (2) (2), .slice (some ⟨b91, 0, none⟩) (2) (2)]) (cs' := #[.int .i64 (6), .string (bs ([])), .slice (some ⟨b90, 0, none⟩) (2) (2), .slice (some ⟨b91, 0, none⟩) (2) (2)]) hF Tryz.sizeOf25 rfl (v := .agg #[.int .i64 (6), .string (bs ([])), .slice (some ⟨b90, 0, none⟩) (2) (2), .slice (some ⟨b91, 0, none⟩) (2) (2)]) rfl rfl (by simp [one]) rfl (Nat.le_of_ble_eq_true rfl) rfl ?_
 clear hF; rintro w hF -
 replace hF : FR w0 [] [(b91, .cells #[.int .i64 (5), .string (bs ([])), .slice (none) (0) (0), .slice (some ⟨b89, 0, none⟩) (2) (2), .int .i64 (4), .string (bs ([120])), .slice (none) (0) (0), .slice (none) (0) (0)] 25), (b90, .cells #[.string (bs ([98])), .string (bs ([97]))] 9), (b89, .cells #[.int .i64 (3), .string (bs ([49])), .slice (none) (0) (0), .slice (none) (0) (0), .int .i64 (1), .string (bs ([])), .slice (none) (0) (0), .slice (none) (0) (0)] 25), (b85, .cells #[.int .i64 (6), .string (bs ([])), .slice (some ⟨b90, 0, none⟩) (2) (2), .slice (some ⟨b91, 0, none⟩) (2) (2)] 25), (b1, .cells #[.int .i64 (1), .string (bs ([])), .slice (none) (0) (0), .slice (none) (0) (0)] 25)] w := hF
 refine d_nil ?_
 have hR : RX w0 [] w [treeD rwT] [.int .i64 (5), .string (bs ([])), .slice (none) (0) (0), .slice (some ⟨b89, 0, none⟩) (2) (2)] := RX.tree ⟨by omega, by omega⟩ (by simp) RX.nils (hF.rowX 2 rfl (RX.append (ds := [_]) (RX.num _ (by simp)) (RX.tree ⟨by omega, by omega⟩ (by simp) RX.nils RX.nils)) (by simp) rfl (by omega))
 have hZ : RX w0 [] w [treeD wT] [.int .i64 (6), .string (bs ([])), .slice (some ⟨b90, 0, none⟩) (2) (2), .slice (some ⟨b91, 0, none⟩) (2) (2)] := RX.tree ⟨by omega, by omega⟩ (by simp) (hF.rowX 1 rfl (RX.strs (ks := [[98], [97]]) (by simp)) (by simp) rfl (by omega)) (hF.rowX 0 rfl (RX.append (ds := [_]) hR (RX.str _ (by simp))) (by simp) rfl (by omega))
 exact e_inv ⟨(b85), ([.int .i64 (6), .string (bs ([])), .slice (some ⟨b90, 0, none⟩) (2) (2), .slice (some ⟨b91, 0, none⟩) (2) (2)]), (rfl), (by simp [one]), (hZ), ⟨rfl, trivial⟩, (((((hF.front 4 rfl).front 4 rfl).erase 2).erase 2).erase 2)⟩
 refine f_call rfl (row_c (some ⟨b89, 0, none⟩) 2 2 _) (x_call1 en_43 rfl rfl) ?_
 rintro _ w ⟨rfl, hE⟩
 replace hF := hF.ext hE
 clear hE
 refine ⟨hF.sub (.cons _ (.cons _ (.cons_cons _ .slnil))), ?_⟩
 refine d_alt ?_ ?_
 refine f_new rfl (v := fun b => .slice (some ⟨b, 0, none⟩) 2 2) hF (x_buildSlice (cs := #[.string (bs ([98])), .string (bs ([97]))]) Tryz.underlying22 Tryz.sizeOf9 Tryz.zeroValue9 (by decide) (by decide) (by kernel_rfl)) ?_
 clear hF; rintro b92 w hb92 hF -
 refine ⟨hF.sub (.cons _ (.cons _ (.cons _ (.cons_cons _ .slnil)))), ?_⟩
 refine f_call rfl (of_c [120] _) (x_call1 en_25 rfl rfl) ?_
 rintro _ w ⟨rfl, hE⟩
 replace hF := hF.ext hE
 clear hE
 refine ⟨hF.sub (.cons _ (.cons _ (.cons _ (.cons_cons _ .slnil)))), ?_⟩
 refine f_new rfl (v := fun b => .slice (some ⟨b, 0, none⟩) 2 2) hF (x_buildSlice (cs := #[.int .i64 (5), .string (bs ([])), .slice (none) (0) (0), .slice (some ⟨b89, 0, none⟩) (2) (2), .int .i64 (4), .string (bs ([120])), .slice (none) (0) (0), .slice (none) (0) (0)]) Tryz.underlying23 Tryz.sizeOf25 Tryz.zeroValue25 (by decide) (by decide) (by kernel_rfl)) ?_
 clear hF; rintro b93 w hb93 hF -
 refine ⟨hF.sub (.cons _ (.cons _ (.cons _ (.cons _ (.cons_cons _ .slnil))))), ?_⟩
 refine f_call rfl (map_c (some ⟨b92, 0, none⟩) 2 2 (some ⟨b93, 0, none⟩) 2 2 _) (x_call2 en_49 rfl rfl rfl) ?_
 rintro _ w ⟨rfl, hE⟩
 replace hF := hF.ext hE
 clear hE
 refine ⟨hF.sub (.cons _ (.cons _ (.cons _ (.cons _ (.cons_cons _ .slnil))))), ?_⟩
 refine f_storez rfl 3 (l := [.int .i64 (6), .string (bs ([])), .slice (some ⟨b92, 0, none⟩) (2) (2), .slice (some ⟨b93, 0, none⟩) (2) (2)]) (cs' := #[.int .i64 (6), .string (bs ([])), .slice (some ⟨b92, 0, none⟩) (2) (2), .slice (some ⟨b93, 0, none⟩) (2) (2)]) hF Tryz.sizeOf25 rfl (v := .agg #[.int .i64 (6), .string (bs ([])), .slice (some ⟨b92, 0, none⟩) (2) (2), .slice (some ⟨b93, 0, none⟩) (2) (2)]) rfl rfl (by simp [one]) rfl (Nat.le_of_ble_eq_true rfl) rfl ?_
 clear hF; rintro w hF -
 replace hF : FR w0 [] [(b93, .cells #[.int .i64 (5), .string (bs ([])), .slice (none) (0) (0), .slice (some ⟨b89, 0, none⟩) (2) (2), .int .i64 (4), .string (bs ([120])), .slice (none) (0) (0), .slice (none) (0) (0)] 25), (b92, .cells #[.string (bs ([98])), .string (bs ([97]))] 9), (b89, .cells #[.int .i64 (3), .string (bs ([49])), .slice (none) (0) (0), .slice (none) (0) (0), .int .i64 (1), .string (bs ([])), .slice (none) (0) (0), .slice (none) (0) (0)] 25), (b85, .cells #[.int .i64 (6), .string (bs ([])), .slice (some ⟨b92, 0, none⟩) (2) (2), .slice (some ⟨b93, 0, none⟩) (2) (2)] 25), (b1, .cells #[.int .i64 (1), .string (bs ([])), .slice (none) (0) (0), .slice (none) (0) (0)] 25)] w := hF
 refine d_nil ?_
 have hR : RX w0 [] w [treeD rwT] [.int .i64 (5), .string (bs ([])), .slice (none) (0) (0), .slice (some ⟨b89, 0, none⟩) (2) (2)] := RX.tree ⟨by omega, by omega⟩ (by simp) RX.nils (hF.rowX 2 rfl (RX.append (ds := [_]) (RX.num _ (by simp)) (RX.tree ⟨by omega, by omega⟩ (by simp) RX.nils RX.nils)) (by simp) rfl (by omega))
 have hZ : RX w0 [] w [treeD wT] [.int .i64 (6), .string (bs ([])), .slice (some ⟨b92, 0, none⟩) (2) (2), .slice (some ⟨b93, 0, none⟩) (2) (2)] := RX.tree ⟨by omega, by omega⟩ (by simp) (hF.rowX 1 rfl (RX.strs (ks := [[98], [97]]) (by simp)) (by simp) rfl (by omega)) (hF.rowX 0 rfl (RX.append (ds := [_]) hR (RX.str _ (by simp))) (by simp) rfl (by omega))
 exact e_inv ⟨(b85), ([.int .i64 (6), .string (bs ([])), .slice (some ⟨b92, 0, none⟩) (2) (2), .slice (some ⟨b93, 0, none⟩) (2) (2)]), (rfl), (by simp [one]), (hZ), ⟨rfl, trivial⟩, (((((hF.front 4 rfl).front 4 rfl).erase 2).erase 2).erase 2)⟩
 refine f_call rfl (of_c [120] _) (x_call1 en_25 rfl rfl) ?_
 rintro _ w ⟨rfl, hE⟩
 replace hF := hF.ext hE
 clear hE
 refine ⟨hF.sub (.cons _ (.cons _ (.cons_cons _ .slnil))), ?_⟩
 refine d_alt ?_ ?_
 refine f_new rfl (v := fun b => .slice (some ⟨b, 0, none⟩) 2 2) hF (x_buildSlice (cs := #[.string (bs ([98])), .string (bs ([97]))]) Tryz.underlying22 Tryz.sizeOf9 Tryz.zeroValue9 (by decide) (by decide) (by kernel_rfl)) ?_
 clear hF; rintro b94 w hb94 hF -
 refine ⟨hF.sub (.cons _ (.cons _ (.cons _ (.cons_cons _ .slnil)))), ?_⟩
 refine f_new rfl (v := fun b => .slice (some ⟨b, 0, none⟩) 2 2) hF (x_buildSlice (cs := #[.int .i64 (5), .string (bs ([])), .slice (none) (0) (0), .slice (some ⟨b89, 0, none⟩) (2) (2), .int .i64 (4), .string (bs ([120])), .slice (none) (0) (0), .slice (none) (0) (0)]) Tryz.underlying23 Tryz.sizeOf25 Tryz.zeroValue25 (by decide) (by decide) (by kernel_rfl)) ?_
 clear hF; rintro b95 w hb95 hF -
 refine ⟨hF.sub (.cons _ (.cons _ (.cons _ (.cons _ (.cons_cons _ .slnil))))), ?_⟩
 refine f_call rfl (map_c (some ⟨b94, 0, none⟩) 2 2 (some ⟨b95, 0, none⟩) 2 2 _) (x_call2 en_49 rfl rfl rfl) ?_
 rintro _ w ⟨rfl, hE⟩
 replace hF := hF.ext hE
 clear hE
 refine ⟨hF.sub (.cons _ (.cons _ (.cons _ (.cons _ (.cons_cons _ .slnil))))), ?_⟩
 refine f_storez rfl 3 (l := [.int .i64 (6), .string (bs ([])), .slice (some ⟨b94, 0, none⟩) (2) (2), .slice (some ⟨b95, 0, none⟩) (2) (2)]) (cs' := #[.int .i64 (6), .string (bs ([])), .slice (some ⟨b94, 0, none⟩) (2) (2), .slice (some ⟨b95, 0, none⟩) (2) (2)]) hF Tryz.sizeOf25 rfl (v := .agg #[.int .i64 (6), .string (bs ([])), .slice (some ⟨b94, 0, none⟩) (2) (2), .slice (some ⟨b95, 0, none⟩) (2) (2)]) rfl rfl (by simp [one]) rfl (Nat.le_of_ble_eq_true rfl) rfl ?_
 clear hF; rintro w hF -
 replace hF : FR w0 [] [(b95, .cells #[.int .i64 (5), .string (bs ([])), .slice (none) (0) (0), .slice (some ⟨b89, 0, none⟩) (2) (2), .int .i64 (4), .string (bs ([120])), .slice (none) (0) (0), .slice (none) (0) (0)] 25), (b94, .cells #[.string (bs ([98])), .string (bs ([97]))] 9), (b89, .cells #[.int .i64 (3), .string (bs ([49])), .slice (none) (0) (0), .slice (none) (0) (0), .int .i64 (1), .string (bs ([])), .slice (none) (0) (0), .slice (none) (0) (0)] 25), (b85, .cells #[.int .i64 (6), .string (bs ([])), .slice (some ⟨b94, 0, none⟩) (2) (2), .slice (some ⟨b95, 0, none⟩) (2) (2)] 25), (b1, .cells #[.int .i64 (1), .string (bs ([])), .slice (none) (0) (0), .slice (none) (0) (0)] 25)] w := hF
 refine d_nil ?_
 have hR : RX w0 [] w [treeD rwT] [.int .i64 (5), .string (bs ([])), .slice (none) (0) (0), .slice (some ⟨b89, 0, none⟩) (2) (2)] := RX.tree ⟨by omega, by omega⟩ (by simp) RX.nils (hF.rowX 2 rfl (RX.append (ds := [_]) (RX.num _ (by simp)) (RX.tree ⟨by omega, by omega⟩ (by simp) RX.nils RX.nils)) (by simp) rfl (by omega))
 have hZ : RX w0 [] w [treeD wT] [.int .i64 (6), .string (bs ([])), .slice (some ⟨b94, 0, none⟩) (2) (2), .slice (some ⟨b95, 0, none⟩) (2) (2)] := RX.tree ⟨by omega, by omega⟩ (by simp) (hF.rowX 1 rfl (RX.strs (ks := [[98], [97]]) (by simp)) (by simp) rfl (by omega)) (hF.rowX 0 rfl (RX.append (ds := [_]) hR (RX.str _ (by simp))) (by simp) rfl (by omega))
 exact e_inv ⟨(b85), ([.int .i64 (6), .string (bs ([])), .slice (some ⟨b94, 0, none⟩) (2) (2), .slice (some ⟨b95, 0, none⟩) (2) (2)]), (rfl), (by simp [one]), (hZ), ⟨rfl, trivial⟩, (((((hF.front 4 rfl).front 4 rfl).erase 2).erase 2).erase 2)⟩
 refine f_new rfl (v := fun b => .slice (some ⟨b, 0, none⟩) 2 2) hF (x_buildSlice (cs := #[.int .i64 (5), .string (bs ([])), .slice (none) (0) (0), .slice (some ⟨b89, 0, none⟩) (2) (2), .int .i64 (4), .string (bs ([120])), .slice (none) (0) (0), .slice (none) (0) (0)]) Tryz.underlying23 Tryz.sizeOf25 Tryz.zeroValue25 (by decide) (by decide) (by kernel_rfl)) ?_
 clear hF; rintro b96 w hb96 hF -
 refine ⟨hF.sub (.cons _ (.cons _ (.cons _ (.cons_cons _ .slnil)))), ?_⟩
 refine f_new rfl (v := fun b => .slice (some ⟨b, 0, none⟩) 2 2) hF (x_buildSlice (cs := #[.string (bs ([98])), .string (bs ([97]))]) Tryz.underlying22 Tryz.sizeOf9 Tryz.zeroValue9 (by decide) (by decide) (by kernel_rfl)) ?_
 clear hF; rintro b97 w hb97 hF -
 refine ⟨hF.sub (.cons _ (.cons _ (.cons _ (.cons _ (.cons_cons _ .slnil))))), ?_⟩
 refine f_call rfl (map_c (some ⟨b97, 0, none⟩) 2 2 (some ⟨b96, 0, none⟩) 2 2 _) (x_call2 en_49 rfl rfl rfl) ?_
 rintro _ w ⟨rfl, hE⟩
 replace hF := hF.ext hE
 clear hE
 refine ⟨hF.sub (.cons _ (.cons _ (.cons _ (.cons _ (.cons_cons _ .slnil))))), ?_⟩
 refine f_storez rfl 3 (l := [.int .i64 (6), .string (bs ([])), .slice (some ⟨b97, 0, none⟩) (2) (2), .slice (some ⟨b96, 0, none⟩) (2) (2)]) (cs' := #[.int .i64 (6), .string (bs ([])), .slice (some ⟨b97, 0, none⟩) (2) (2), .slice (some ⟨b96, 0, none⟩) (2) (2)]) hF Tryz.sizeOf25 rfl (v := .agg #[.int .i64 (6), .string (bs ([])), .slice (some ⟨b97, 0, none⟩) (2) (2), .slice (some ⟨b96, 0, none⟩) (2) (2)]) rfl rfl (by simp [one]) rfl (Nat.le_of_ble_eq_true rfl) rfl ?_
 clear hF; rintro w hF -
 replace hF : FR w0 [] [(b97, .cells #[.string (bs ([98])), .string (bs ([97]))] 9), (b96, .cells #[.int .i64 (5), .string (bs ([])), .slice (none) (0) (0), .slice (some ⟨b89, 0, none⟩) (2) (2), .int .i64 (4), .string (bs ([120])), .slice (none) (0) (0), .slice (none) (0) (0)] 25), (b89, .cells #[.int .i64 (3), .string (bs ([49])), .slice (none) (0) (0), .slice (none) (0) (0), .int .i64 (1), .string (bs ([])), .slice (none) (0) (0), .slice (none) (0) (0)] 25), (b85, .cells #[.int .i64 (6), .string (bs ([])), .slice (some ⟨b97, 0, none⟩) (2) (2), .slice (some ⟨b96, 0, none⟩) (2) (2)] 25), (b1, .cells #[.int .i64 (1), .string (bs ([])), .slice (none) (0) (0), .slice (none) (0) (0)] 25)] w := hF
 refine d_nil ?_
 have hR : RX w0 [] w [treeD rwT] [.int .i64 (5), .string (bs ([])), .slice (none) (0) (0), .slice (some ⟨b89, 0, none⟩) (2) (2)] := RX.tree ⟨by omega, by omega⟩ (by simp) RX.nils (hF.rowX 2 rfl (RX.append (ds := [_]) (RX.num _ (by simp)) (RX.tree ⟨by omega, by omega⟩ (by simp) RX.nils RX.nils)) (by simp) rfl (by omega))
 have hZ : RX w0 [] w [treeD wT] [.int .i64 (6), .string (bs ([])), .slice (some ⟨b97, 0, none⟩) (2) (2), .slice (some ⟨b96, 0, none⟩) (2) (2)] := RX.tree ⟨by omega, by omega⟩ (by simp) (hF.rowX 0 rfl (RX.strs (ks := [[98], [97]]) (by simp)) (by simp) rfl (by omega)) (hF.rowX 1 rfl (RX.append (ds := [_]) hR (RX.str _ (by simp))) (by simp) rfl (by omega))
 exact e_inv ⟨(b85), ([.int .i64 (6), .string (bs ([])), .slice (some ⟨b97, 0, none⟩) (2) (2), .slice (some ⟨b96, 0, none⟩) (2) (2)]), (rfl), (by simp [one]), (hZ), ⟨rfl, trivial⟩, (((((hF.front 4 rfl).front 4 rfl).erase 2).erase 2).erase 2)⟩
 refine f_new rfl (v := fun b => .pointer (some ⟨b, 0, none⟩)) (o := .cells #[.int .i64 (0), .string (bs ([])), .slice (none) (0) (0), .slice (none) (0) (0)] 25) hF (x_alloc Tryz.zeroValue25) ?_
 clear hF; rintro b98 w hb98 hF -
 refine ⟨hF.sub (.cons _ (.cons_cons _ .slnil)), ?_⟩
 refine d_alt ?_ ?_
 refine f_new rfl (v := fun b => .slice (some ⟨b, 0, none⟩) 2 2) hF (x_buildSlice (cs := #[.string (bs ([98])), .string (bs ([97]))]) Tryz.underlying22 Tryz.sizeOf9 Tryz.zeroValue9 (by decide) (by decide) (by kernel_rfl)) ?_
 clear hF; rintro b99 w hb99 hF -
 refine ⟨hF.sub (.cons _ (.cons _ (.cons_cons _ .slnil))), ?_⟩
 refine f_call rfl (ret_eq (v' := .agg #[.int .i64 (3), .string (bs ([49])), .slice (none) (0) (0), .slice (none) (0) (0)]) (num_c 1 (by omega) (by omega) _ (hG.ext hF.same)) (by kernel_rfl)) (x_call1 en_39 rfl rfl) ?_
 rintro _ w ⟨rfl, hE⟩
 replace hF := hF.ext hE
 clear hE
 refine ⟨hF.sub (.cons _ (.cons _ (.cons_cons _ .slnil))), ?_⟩
 refine f_new rfl (v := fun b => .slice (some ⟨b, 0, none⟩) 2 2) hF (x_buildSlice (cs := #[.int .i64 (3), .string (bs ([49])), .slice (none) (0) (0), .slice (none) (0) (0), .int .i64 (1), .string (bs ([])), .slice (none) (0) (0), .slice (none) (0) (0)]) Tryz.underlying23 Tryz.sizeOf25 Tryz.zeroValue25 (by decide) (by decide) (by kernel_rfl)) ?_
 clear hF; rintro b100 w hb100 hF -
 refine ⟨hF.sub (.cons _ (.cons _ (.cons _ (.cons_cons _ .slnil)))), ?_⟩
 refine f_call rfl (row_c (some ⟨b100, 0, none⟩) 2 2 _) (x_call1 en_43 rfl rfl) ?_
 rintro _ w ⟨rfl, hE⟩
 replace hF := hF.ext hE
 clear hE
 refine ⟨hF.sub (.cons _ (.cons _ (.cons _ (.cons_cons _ .slnil)))), ?_⟩
 refine f_call rfl (of_c [120] _) (x_call1 en_25 rfl rfl) ?_
 rintro _ w ⟨rfl, hE⟩
 replace hF := hF.ext hE
 clear hE
 refine ⟨hF.sub (.cons _ (.cons _ (.cons _ (.cons_cons _ .slnil)))), ?_⟩
 refine f_new rfl (v := fun b => .slice (some ⟨b, 0, none⟩) 2 2) hF (x_buildSlice (cs := #[.int .i64 (5), .string (bs ([])), .slice (none) (0) (0), .slice (some ⟨b100, 0, none⟩) (2) (2), .int .i64 (4), .string (bs ([120])), .slice (none) (0) (0), .slice (none) (0) (0)]) Tryz.underlying23 Tryz.sizeOf25 Tryz.zeroValue25 (by decide) (by decide) (by kernel_rfl)) ?_
 clear hF; rintro b101 w hb101 hF -
 refine ⟨hF.sub (.cons _ (.cons _ (.cons _ (.cons _ (.cons_cons _ .slnil))))), ?_⟩
 refine f_call rfl (map_c (some ⟨b99, 0, none⟩) 2 2 (some ⟨b101, 0, none⟩) 2 2 _) (x_call2 en_49 rfl rfl rfl) ?_
 rintro _ w ⟨rfl, hE⟩
 replace hF := hF.ext hE
 clear hE
 refine ⟨hF.sub (.cons _ (.cons _ (.cons _ (.cons _ (.cons_cons _ .slnil))))), ?_⟩
 refine f_storez rfl 3 (l := [.int .i64 (6), .string (bs ([])), .slice (some ⟨b99, 0, none⟩) (2) (2), .slice (some ⟨b101, 0, none⟩) (2) (2)]) (cs' := #[.int .i64 (6), .string (bs ([])), .slice (some ⟨b99, 0, none⟩) (2) (2), .slice (some ⟨b101, 0, none⟩) (2) (2)]) hF Tryz.sizeOf25 rfl (v := .agg #[.int .i64 (6), .string (bs ([])), .slice (some ⟨b99, 0, none⟩) (2) (2), .slice (some ⟨b101, 0, none⟩) (2) (2)]) rfl rfl (by simp [one]) rfl (Nat.le_of_ble_eq_true rfl) rfl ?_
 clear hF; rintro w hF -
 replace hF : FR w0 [] [(b101, .cells #[.int .i64 (5), .string (bs ([])), .slice (none) (0) (0), .slice (some ⟨b100, 0, none⟩) (2) (2), .int .i64 (4), .string (bs ([120])), .slice (none) (0) (0), .slice (none) (0) (0)] 25), (b100, .cells #[.int .i64 (3), .string (bs ([49])), .slice (none) (0) (0), .slice (none) (0) (0), .int .i64 (1), .string (bs ([])), .slice (none) (0) (0), .slice (none) (0) (0)] 25), (b99, .cells #[.string (bs ([98])), .string (bs ([97]))] 9), (b98, .cells #[.int .i64 (6), .string (bs ([])), .slice (some ⟨b99, 0, none⟩) (2) (2), .slice (some ⟨b101, 0, none⟩) (2) (2)] 25), (b1, .cells #[.int .i64 (1), .string (bs ([])), .slice (none) (0) (0), .slice (none) (0) (0)] 25)] w := hF
 refine d_nil ?_
 have hR : RX w0 [] w [treeD rwT] [.int .i64 (5), .string (bs ([])), .slice (none) (0) (0), .slice (some ⟨b100, 0, none⟩) (2) (2)] := RX.tree ⟨by omega, by omega⟩ (by simp) RX.nils (hF.rowX 1 rfl (RX.append (ds := [_]) (RX.num _ (by simp)) (RX.tree ⟨by omega, by omega⟩ (by simp) RX.nils RX.nils)) (by simp) rfl (by omega))
 have hZ : RX w0 [] w [treeD wT] [.int .i64 (6), .string (bs ([])), .slice (some ⟨b99, 0, none⟩) (2) (2), .slice (some ⟨b101, 0, none⟩) (2) (2)] := RX.tree ⟨by omega, by omega⟩ (by simp) (hF.rowX 2 rfl (RX.strs (ks := [[98], [97]]) (by simp)) (by simp) rfl (by omega)) (hF.rowX 0 rfl (RX.append (ds := [_]) hR (RX.str _ (by simp))) (by simp) rfl (by omega))
 exact e_inv ⟨(b98), ([.int .i64 (6), .string (bs ([])), .slice (some ⟨b99, 0, none⟩) (2) (2), .slice (some ⟨b101, 0, none⟩) (2) (2)]), (rfl), (by simp [one]), (hZ), ⟨rfl, trivial⟩, (((((hF.front 4 rfl).front 4 rfl).erase 2).erase 2).erase 2)⟩
 refine f_call rfl (ret_eq (v' := .agg #[.int .i64 (3), .string (bs ([49])), .slice (none) (0) (0), .slice (none) (0) (0)]) (num_c 1 (by omega) (by omega) _ (hG.ext hF.same)) (by kernel_rfl)) (x_call1 en_39 rfl rfl) ?_
 rintro _ w ⟨rfl, hE⟩
 replace hF := hF.ext hE
 clear hE
 refine ⟨hF.sub (.cons _ (.cons_cons _ .slnil)), ?_⟩
 refine d_alt ?_ ?_
 refine f_new rfl (v := fun b => .slice (some ⟨b, 0, none⟩) 2 2) hF (x_buildSlice (cs := #[.string (bs ([98])), .string (bs ([97]))]) Tryz.underlying22 Tryz.sizeOf9 Tryz.zeroValue9 (by decide) (by decide) (by kernel_rfl)) ?_
 clear hF; rintro b102 w hb102 hF -
 refine ⟨hF.sub (.cons _ (.cons _ (.cons_cons _ .slnil))), ?_⟩
 refine f_new rfl (v := fun b => .slice (some ⟨b, 0, none⟩) 2 2) hF (x_buildSlice (cs := #[.int .i64 (3), .string (bs ([49])), .slice (none) (0) (0), .slice (none) (0) (0), .int .i64 (1), .string (bs ([])), .slice (none) (0) (0), .slice (none) (0) (0)]) Tryz.underlying23 Tryz.sizeOf25 Tryz.zeroValue25 (by decide) (by decide) (by kernel_rfl)) ?_
 clear hF; rintro b103 w hb103 hF -
 refine ⟨hF.sub (.cons _ (.cons _ (.cons _ (.cons_cons _ .slnil)))), ?_⟩
 refine f_call rfl (row_c (some ⟨b103, 0, none⟩) 2 2 _) (x_call1 en_43 rfl rfl) ?_
 rintro _ w ⟨rfl, hE⟩
 replace hF := hF.ext hE
 clear hE
 refine ⟨hF.sub (.cons _ (.cons _ (.cons _ (.cons_cons _ .slnil)))), ?_⟩
 refine f_call rfl (of_c [120] _) (x_call1 en_25 rfl rfl) ?_
 rintro _ w ⟨rfl, hE⟩
 replace hF := hF.ext hE
 clear hE
 refine ⟨hF.sub (.cons _ (.cons _ (.cons _ (.cons_cons _ .slnil)))), ?_⟩
 refine f_new rfl (v := fun b => .slice (some ⟨b, 0, none⟩) 2 2) hF (x_buildSlice (cs := #[.int .i64 (5), .string (bs ([])), .slice (none) (0) (0), .slice (some ⟨b103, 0, none⟩) (2) (2), .int .i64 (4), .string (bs ([120])), .slice (none) (0) (0), .slice (none) (0) (0)]) Tryz.underlying23 Tryz.sizeOf25 Tryz.zeroValue25 (by decide) (by decide) (by kernel_rfl)) ?_
 clear hF; rintro b104 w hb104 hF -
 refine ⟨hF.sub (.cons _ (.cons _ (.cons _ (.cons _ (.cons_cons _ .slnil))))), ?_⟩
 refine f_call rfl (map_c (some ⟨b102, 0, none⟩) 2 2 (some ⟨b104, 0, none⟩) 2 2 _) (x_call2 en_49 rfl rfl rfl) ?_
 rintro _ w ⟨rfl, hE⟩
 replace hF := hF.ext hE
 clear hE
 refine ⟨hF.sub (.cons _ (.cons _ (.cons _ (.cons _ (.cons_cons _ .slnil))))), ?_⟩
 refine f_storez rfl 3 (l := [.int .i64 (6), .string (bs ([])), .slice (some ⟨b102, 0, none⟩) (2) (2), .slice (some ⟨b104, 0, none⟩) (2) (2)]) (cs' := #[.int .i64 (6), .string (bs ([])), .slice (some ⟨b102, 0, none⟩) (2) (2), .slice (some ⟨b104, 0, none⟩) (2) (2)]) hF Tryz.sizeOf25 rfl (v := .agg #[.int .i64 (6), .string (bs ([])), .slice (some ⟨b102, 0, none⟩) (2) (2), .slice (some ⟨b104, 0, none⟩) (2) (2)]) rfl rfl (by simp [one]) rfl (Nat.le_of_ble_eq_true rfl) rfl ?_
 clear hF; rintro w hF -
 replace hF : FR w0 [] [(b104, .cells #[.int .i64 (5), .string (bs ([])), .slice (none) (0) (0), .slice (some ⟨b103, 0, none⟩) (2) (2), .int .i64 (4), .string (bs ([120])), .slice (none) (0) (0), .slice (none) (0) (0)] 25), (b103, .cells #[.int .i64 (3), .string (bs ([49])), .slice (none) (0) (0), .slice (none) (0) (0), .int .i64 (1), .string (bs ([])), .slice (none) (0) (0), .slice (none) (0) (0)] 25), (b102, .cells #[.string (bs ([98])), .string (bs ([97]))] 9), (b98, .cells #[.int .i64 (6), .string (bs ([])), .slice (some ⟨b102, 0, none⟩) (2) (2), .slice (some ⟨b104, 0, none⟩) (2) (2)] 25), (b1, .cells #[.int .i64 (1), .string (bs ([])), .slice (none) (0) (0), .slice (none) (0) (0)] 25)] w := hF
 refine d_nil ?_
 have hR : RX w0 [] w [treeD rwT] [.int .i64 (5), .string (bs ([])), .slice (none) (0) (0), .slice (some ⟨b103, 0, none⟩) (2) (2)] := RX.tree ⟨by omega, by omega⟩ (by simp) RX.nils (hF.rowX 1 rfl (RX.append (ds := [_]) (RX.num _ (by simp)) (RX.tree ⟨by omega, by omega⟩ (by simp) RX.nils RX.nils)) (by simp) rfl (by omega))
 have hZ : RX w0 [] w [treeD wT] [.int .i64 (6), .string (bs ([])), .slice (some ⟨b102, 0, none⟩) (2) (2), .slice (some ⟨b104, 0, none⟩) (2) (2)] := RX.tree ⟨by omega, by omega⟩ (by simp) (hF.rowX 2 rfl (RX.strs (ks := [[98], [97]]) (by simp)) (by simp) rfl (by omega)) (hF.rowX 0 rfl (RX.append (ds := [_]) hR (RX.str _ (by simp))) (by simp) rfl (by omega))
 exact e_inv ⟨(b98), ([.int .i64 (6), .string (bs ([])), .slice (some ⟨b102, 0, none⟩) (2) (2), .slice (some ⟨b104, 0, none⟩) (2) (2)]), (rfl), (by simp [one]), (hZ), ⟨rfl, trivial⟩, (((((hF.front 4 rfl).front 4 rfl).erase 2).erase 2).erase 2)⟩
 refine f_new rfl (v := fun b => .slice (some ⟨b, 0, none⟩) 2 2) hF (x_buildSlice (cs := #[.int .i64 (3), .string (bs ([49])), .slice (none) (0) (0), .slice (none) (0) (0), .int .i64 (1), .string (bs ([])), .slice (none) (0) (0), .slice (none) (0) (0)]) Tryz.underlying23 Tryz.sizeOf25 Tryz.zeroValue25 (by decide) (by decide) (by kernel_rfl)) ?_
 clear hF; rintro b105 w hb105 hF -
 refine ⟨hF.sub (.cons _ (.cons _ (.cons_cons _ .slnil))), ?_⟩
 refine d_alt ?_ ?_
 refine f_new rfl (v := fun b => .slice (some ⟨b, 0, none⟩) 2 2) hF (x_buildSlice (cs := #[.string (bs ([98])), .string (bs ([97]))]) Tryz.underlying22 Tryz.sizeOf9 Tryz.zeroValue9 (by decide) (by decide) (by kernel_rfl)) ?_
 clear hF; rintro b106 w hb106 hF -
 refine ⟨hF.sub (.cons _ (.cons _ (.cons _ (.cons_cons _ .slnil)))), ?_⟩
 refine f_call rfl (row_c (some ⟨b105, 0, none⟩) 2 2 _) (x_call1 en_43 rfl rfl) ?_
 rintro _ w ⟨rfl, hE⟩
 replace hF := hF.ext hE
 clear hE
 refine ⟨hF.sub (.cons _ (.cons _ (.cons _ (.cons_cons _ .slnil)))), ?_⟩
 refine f_call rfl (of_c [120] _) (x_call1 en_25 rfl rfl) ?_
 rintro _ w ⟨rfl, hE⟩
 replace hF := hF.ext hE
 clear hE
 refine ⟨hF.sub (.cons _ (.cons _ (.cons _ (.cons_cons _ .slnil)))), ?_⟩
 refine f_new rfl (v := fun b => .slice (some ⟨b, 0, none⟩) 2 2) hF (x_buildSlice (cs := #[.int .i64 (5), .string (bs ([])), .slice (none) (0) (0), .slice (some ⟨b105, 0, none⟩) (2) (2), .int .i64 (4), .string (bs ([120])), .slice (none) (0) (0), .slice (none) (0) (0)]) Tryz.underlying23 Tryz.sizeOf25 Tryz.zeroValue25 (by decide) (by decide) (by kernel_rfl)) ?_
 clear hF; rintro b107 w hb107 hF -
 refine ⟨hF.sub (.cons _ (.cons _ (.cons _ (.cons _ (.cons_cons _ .slnil))))), ?_⟩
 refine f_call rfl (map_c (some ⟨b106, 0, none⟩) 2 2 (some ⟨b107, 0, none⟩) 2 2 _) (x_call2 en_49 rfl rfl rfl) ?_
 rintro _ w ⟨rfl, hE⟩
 replace hF := hF.ext hE
 clear hE
 refine ⟨hF.sub (.cons _ (.cons _ (.cons _ (.cons _ (.cons_cons _ .slnil))))), ?_⟩
 refine f_storez rfl 3 (l := [.int .i64 (6), .string (bs ([])), .slice (some ⟨b106, 0, none⟩) (2) (2), .slice (some ⟨b107, 0, none⟩) (2) (2)]) (cs' := #[.int .i64 (6), .string (bs ([])), .slice (some ⟨b106, 0, none⟩) (2) (2), .slice (some ⟨b107, 0, none⟩) (2) (2)]) hF Tryz.sizeOf25 rfl (v := .agg #[.int .i64 (6), .string (bs ([])), .slice (some ⟨b106, 0, none⟩) (2) (2), .slice (some ⟨b107, 0, none⟩) (2) (2)]) rfl rfl (by simp [one]) rfl (Nat.le_of_ble_eq_true rfl) rfl ?_
 clear hF; rintro w hF -
 replace hF : FR w0 [] [(b107, .cells #[.int .i64 (5), .string (bs ([])), .slice (none) (0) (0), .slice (some ⟨b105, 0, none⟩) (2) (2), .int .i64 (4), .string (bs ([120])), .slice (none) (0) (0), .slice (none) (0) (0)] 25), (b106, .cells #[.string (bs ([98])), .string (bs ([97]))] 9), (b105, .cells #[.int .i64 (3), .string (bs ([49])), .slice (none) (0) (0), .slice (none) (0) (0), .int .i64 (1), .string (bs ([])), .slice (none) (0) (0), .slice (none) (0) (0)] 25), (b98, .cells #[.int .i64 (6), .string (bs ([])), .slice (some ⟨b106, 0, none⟩) (2) (2), .slice (some ⟨b107, 0, none⟩) (2) (2)] 25), (b1, .cells #[.int .i64 (1), .string (bs ([])), .slice (none) (0) (0), .slice (none) (0) (0)] 25)] w := hF
 refine d_nil ?_
 have hR : RX w0 [] w [treeD rwT] [.int .i64 (5), .string (bs ([])), .slice (none) (0) (0), .slice (some ⟨b105, 0, none⟩) (2) (2)] := RX.tree ⟨by omega, by omega⟩ (by simp) RX.nils (hF.rowX 2 rfl (RX.append (ds := [_]) (RX.num _ (by simp)) (RX.tree ⟨by omega, by omega⟩ (by simp) RX.nils RX.nils)) (by simp) rfl (by omega))
 have hZ : RX w0 [] w [treeD wT] [.int .i64 (6), .string (bs ([])), .slice (some ⟨b106, 0, none⟩) (2) (2), .slice (some ⟨b107, 0, none⟩) (2) (2)] := RX.tree ⟨by omega, by omega⟩ (by simp) (hF.rowX 1 rfl (RX.strs (ks := [[98], [97]]) (by simp)) (by simp) rfl (by omega)) (hF.rowX 0 rfl (RX.append (ds := [_]) hR (RX.str _ (by simp))) (by simp) rfl (by omega))
 exact e_inv ⟨(b98), ([.int .i64 (6), .string (bs ([])), .slice (some ⟨b106, 0, none⟩) (2) (2), .slice (some ⟨b107, 0, none⟩) (2) (2)]), (rfl), (by simp [one]), (hZ), ⟨rfl, trivial⟩, (((((hF.front 4 rfl).front 4 rfl).erase 2).erase 2).erase 2)⟩
 refine f_call rfl (row_c (some ⟨b105, 0, none⟩) 2 2 _) (x_call1 en_43 rfl rfl) ?_
 rintro _ w ⟨rfl, hE⟩
 replace hF := hF.ext hE
 clear hE
 refine ⟨hF.sub (.cons _ (.cons _ (.cons_cons _ .slnil))), ?_⟩
 refine d_alt ?_ ?_
 refine f_new rfl (v := fun b => .slice (some ⟨b, 0, none⟩) 2 2) hF (x_buildSlice (cs := #[.string (bs ([98])), .string (bs ([97]))]) Tryz.underlying22 Tryz.sizeOf9 Tryz.zeroValue9 (by decide) (by decide) (by kernel_rfl)) ?_
 clear hF; rintro b108 w hb108 hF -
 refine ⟨hF.sub (.cons _ (.cons _ (.cons _ (.cons_cons _ .slnil)))), ?_⟩
 refine f_call rfl (of_c [120] _) (x_call1 en_25 rfl rfl) ?_
 rintro _ w ⟨rfl, hE⟩
 replace hF := hF.ext hE
 clear hE
 refine ⟨hF.sub (.cons _ (.cons _ (.cons _ (.cons_cons _ .slnil)))), ?_⟩
 refine f_new rfl (v := fun b => .slice (some ⟨b, 0, none⟩) 2 2) hF (x_buildSlice (cs := #[.int .i64 (5), .string (bs ([])), .slice (none) (0) (0), .slice (some ⟨b105, 0, none⟩) (2) (2), .int .i64 (4), .string (bs ([120])), .slice (none) (0) (0), .slice (none) (0) (0)]) Tryz.underlying23 Tryz.sizeOf25 Tryz.zeroValue25 (by decide) (by decide) (by kernel_rfl)) ?_
 clear hF; rintro b109 w hb109 hF -
 refine ⟨hF.sub (.cons _ (.cons _ (.cons _ (.cons _ (.cons_cons _ .slnil))))), ?_⟩
 refine f_call rfl (map_c (some ⟨b108, 0, none⟩) 2 2 (some ⟨b109, 0, none⟩) 2 2 _) (x_call2 en_49 rfl rfl rfl) ?_
 rintro _ w ⟨rfl, hE⟩
 replace hF := hF.ext hE
 clear hE
 refine ⟨hF.sub (.cons _ (.cons _ (.cons _ (.cons _ (.cons_cons _ .slnil))))), ?_⟩
 refine f_storez rfl 3 (l := [.int .i64 (6), .string (bs ([])), .slice (some ⟨b108, 0, none⟩) (2) (2), .slice (some ⟨b109, 0, none⟩) (2) (2)]) (cs' := #[.int .i64 (6), .string (bs ([])), .slice (some ⟨b108, 0, none⟩) (2) (2), .slice (some ⟨b109, 0, none⟩) (2) (2)]) hF Tryz.sizeOf25 rfl (v := .agg #[.int .i64 (6), .string (bs ([])), .slice (some ⟨b108, 0, none⟩) (2) (2), .slice (some ⟨b109, 0, none⟩) (2) (2)]) rfl rfl (by simp [one]) rfl (Nat.le_of_ble_eq_true rfl) rfl ?_
 clear hF; rintro w hF -
 replace hF : FR w0 [] [(b109, .cells #[.int .i64 (5), .string (bs ([])), .slice (none) (0) (0), .slice (some ⟨b105, 0, none⟩) (2) (2), .int .i64 (4), .string (bs ([120])), .slice (none) (0) (0), .slice (none) (0) (0)] 25), (b108, .cells #[.string (bs ([98])), .string (bs ([97]))] 9), (b105, .cells #[.int .i64 (3), .string (bs ([49])), .slice (none) (0) (0), .slice (none) (0) (0), .int .i64 (1), .string (bs ([])), .slice (none) (0) (0), .slice (none) (0) (0)] 25), (b98, .cells #[.int .i64 (6), .string (bs ([])), .slice (some ⟨b108, 0, none⟩) (2) (2), .slice (some ⟨b109, 0, none⟩) (2) (2)] 25), (b1, .cells #[.int .i64 (1), .string (bs ([])), .slice (none) (0) (0), .slice (none) (0) (0)] 25)] w := hF
 refine d_nil ?_
 have hR : RX w0 [] w [treeD rwT] [.int .i64 (5), .string (bs ([])), .slice (none) (0) (0), .slice (some ⟨b105, 0, none⟩) (2) (2)] := RX.tree ⟨by omega, by omega⟩ (by simp) RX.nils (hF.rowX 2 rfl (RX.append (ds := [_]) (RX.num _ (by simp)) (RX.tree ⟨by omega, by omega⟩ (by simp) RX.nils RX.nils)) (by simp) rfl (by omega))
 have hZ : RX w0 [] w [treeD wT] [.int .i64 (6), .string (bs ([])), .slice (some ⟨b108, 0, none⟩) (2) (2), .slice (some ⟨b109, 0, none⟩) (2) (2)] := RX.tree ⟨by omega, by omega⟩ (by simp) (hF.rowX 1 rfl (RX.strs (ks := [[98], [97]]) (by simp)) (by simp) rfl (by omega)) (hF.rowX 0 rfl (RX.append (ds := [_]) hR (RX.str _ (by simp))) (by simp) rfl (by omega))
 exact e_inv ⟨(b98), ([.int .i64 (6), .string (bs ([])), .slice (some ⟨b108, 0, none⟩) (2) (2), .slice (some ⟨b109, 0, none⟩) (2) (2)]), (rfl), (by simp [one]), (hZ), ⟨rfl, trivial⟩, (((((hF.front 4 rfl).front 4 rfl).erase 2).erase 2).erase 2)⟩
 refine f_call rfl (of_c [120] _) (x_call1 en_25 rfl rfl) ?_
 rintro _ w ⟨rfl, hE⟩
 replace hF := hF.ext hE
 clear hE
 refine ⟨hF.sub (.cons _ (.cons _ (.cons_cons _ .slnil))), ?_⟩
 refine d_alt ?_ ?_
 refine f_new rfl (v := fun b => .slice (some ⟨b, 0, none⟩) 2 2) hF (x_buildSlice (cs := #[.string (bs ([98])), .string (bs ([97]))]) Tryz.underlying22 Tryz.sizeOf9 Tryz.zeroValue9 (by decide) (by decide) (by kernel_rfl)) ?_
 clear hF; rintro b110 w hb110 hF -
 refine ⟨hF.sub (.cons _ (.cons _ (.cons _ (.cons_cons _ .slnil)))), ?_⟩
 refine f_new rfl (v := fun b => .slice (some ⟨b, 0, none⟩) 2 2) hF (x_buildSlice (cs := #[.int .i64 (5), .string (bs ([])), .slice (none) (0) (0), .slice (some ⟨b105, 0, none⟩) (2) (2), .int .i64 (4), .string (bs ([120])), .slice (none) (0) (0), .slice (none) (0) (0)]) Tryz.underlying23 Tryz.sizeOf25 Tryz.zeroValue25 (by decide) (by decide) (by kernel_rfl)) ?_
 clear hF; rintro b111 w hb111 hF -
 refine ⟨hF.sub (.cons _ (.cons _ (.cons _ (.cons _ (.cons_cons _ .slnil))))), ?_⟩
 refine f_call rfl (map_c (some ⟨b110, 0, none⟩) 2 2 (some ⟨b111, 0, none⟩) 2 2 _) (x_call2 en_49 rfl rfl rfl) ?_
 rintro _ w ⟨rfl, hE⟩
 replace hF := hF.ext hE
 clear hE
 refine ⟨hF.sub (.cons _ (.cons _ (.cons _ (.cons _ (.cons_cons _ .slnil))))), ?_⟩
 refine f_storez rfl 3 (l := [.int .i64 (6), .string (bs ([])), .slice (some ⟨b110, 0, none⟩) (2) (2), .slice (some ⟨b111, 0, none⟩) (2) (2)]) (cs' := #[.int .i64 (6), .string (bs ([])), .slice (some ⟨b110, 0, none⟩) (2) (2), .slice (some ⟨b111, 0, none⟩) (2) (2)]) hF Tryz.sizeOf25 rfl (v := .agg #[.int .i64 (6), .string (bs ([])), .slice (some ⟨b110, 0, none⟩) (2) (2), .slice (some ⟨b111, 0, none⟩) (2) (2)]) rfl rfl (by simp [one]) rfl (Nat.le_of_ble_eq_true rfl) rfl ?_
 clear hF; rintro w hF -
 replace hF : FR w0 [] [(b111, .cells #[.int .i64 (5), .string (bs ([])), .slice (none) (0) (0), .slice (some ⟨b105, 0, none⟩) (2) (2), .int .i64 (4), .string (bs ([120])), .slice (none) (0) (0), .slice (none) (0) (0)] 25), (b110, .cells #[.string (bs ([98])), .string (bs ([97]))] 9), (b105, .cells #[.int .i64 (3), .string (bs ([49])), .slice (none) (0) (0), .slice (none) (0) (0), .int .i64 (1), .string (bs ([])), .slice (none) (0) (0), .slice (none) (0) (0)] 25), (b98, .cells #[.int .i64 (6), .string (bs ([])), .slice (some ⟨b110, 0, none⟩) (2) (2), .slice (some ⟨b111, 0, none⟩) (2) (2)] 25), (b1, .cells #[.int .i64 (1), .string (bs ([])), .slice (none) (0) (0), .slice (none) (0) (0)] 25)] w := hF
 refine d_nil ?_
 have hR : RX w0 [] w [treeD rwT] [.int .i64 (5), .string (bs ([])), .slice (none) (0) (0), .slice (some ⟨b105, 0, none⟩) (2) (2)] := RX.tree ⟨by omega, by omega⟩ (by simp) RX.nils (hF.rowX 2 rfl (RX.append (ds := [_]) (RX.num _ (by simp)) (RX.tree ⟨by omega, by omega⟩ (by simp) RX.nils RX.nils)) (by simp) rfl (by omega))
 have hZ : RX w0 [] w [treeD wT] [.int .i64 (6), .string (bs ([])), .slice (some ⟨b110, 0, none⟩) (2) (2), .slice (some ⟨b111, 0, none⟩) (2) (2)] := RX.tree ⟨by omega, by omega⟩ (by simp) (hF.rowX 1 rfl (RX.strs (ks := [[98], [97]]) (by simp)) (by simp) rfl (by omega)) (hF.rowX 0 rfl (RX.append (ds := [_]) hR (RX.str _ (by simp))) (by simp) rfl (by omega))
 exact e_inv ⟨(b98), ([.int .i64 (6), .string (bs ([])), .slice (some ⟨b110, 0, none⟩) (2) (2), .slice (some ⟨b111, 0, none⟩) (2) (2)]), (rfl), (by simp [one]), (hZ), ⟨rfl, trivial⟩, (((((hF.front 4 rfl).front 4 rfl).erase 2).erase 2).erase 2)⟩
 refine f_new rfl (v := fun b => .slice (some ⟨b, 0, none⟩) 2 2) hF (x_buildSlice (cs := #[.int .i64 (5), .string (bs ([])), .slice (none) (0) (0), .slice (some ⟨b105, 0, none⟩) (2) (2), .int .i64 (4), .string (bs ([120])), .slice (none) (0) (0), .slice (none) (0) (0)]) Tryz.underlying23 Tryz.sizeOf25 Tryz.zeroValue25 (by decide) (by decide) (by kernel_rfl)) ?_
 clear hF; rintro b112 w hb112 hF -
 refine ⟨hF.sub (.cons _ (.cons _ (.cons _ (.cons_cons _ .slnil)))), ?_⟩
 refine f_new rfl (v := fun b => .slice (some ⟨b, 0, none⟩) 2 2) hF (x_buildSlice (cs := #[.string (bs ([98])), .string (bs ([97]))]) Tryz.underlying22 Tryz.sizeOf9 Tryz.zeroValue9 (by decide) (by decide) (by kernel_rfl)) ?_
 clear hF; rintro b113 w hb113 hF -
 refine ⟨hF.sub (.cons _ (.cons _ (.cons _ (.cons _ (.cons_cons _ .slnil))))), ?_⟩
 refine f_call rfl (map_c (some ⟨b113, 0, none⟩) 2 2 (some ⟨b112, 0, none⟩) 2 2 _) (x_call2 en_49 rfl rfl rfl) ?_
 rintro _ w ⟨rfl, hE⟩
 replace hF := hF.ext hE
 clear hE
 refine ⟨hF.sub (.cons _ (.cons _ (.cons _ (.cons _ (.cons_cons _ .slnil))))), ?_⟩
 refine f_storez rfl 3 (l := [.int .i64 (6), .string (bs ([])), .slice (some ⟨b113, 0, none⟩) (2) (2), .slice (some ⟨b112, 0, none⟩) (2) (2)]) (cs' := #[.int .i64 (6), .string (bs ([])), .slice (some ⟨b113, 0, none⟩) (2) (2), .slice (some ⟨b112, 0, none⟩) (2) (2)]) hF Tryz.sizeOf25 rfl (v := .agg #[.int .i64 (6), .string (bs ([])), .slice (some ⟨b113, 0, none⟩) (2) (2), .slice (some ⟨b112, 0, none⟩) (2) (2)]) rfl rfl (by simp [one]) rfl (Nat.le_of_ble_eq_true rfl) rfl ?_
 clear hF; rintro w hF -
 replace hF : FR w0 [] [(b113, .cells #[.string (bs ([98])), .string (bs ([97]))] 9), (b112, .cells #[.int .i64 (5), .string (bs ([])), .slice (none) (0) (0), .slice (some ⟨b105, 0, none⟩) (2) (2), .int .i64 (4), .string (bs ([120])), .slice (none) (0) (0), .slice (none) (0) (0)] 25), (b105, .cells #[.int .i64 (3), .string (bs ([49])), .slice (none) (0) (0), .slice (none) (0) (0), .int .i64 (1), .string (bs ([])), .slice (none) (0) (0), .slice (none) (0) (0)] 25), (b98, .cells #[.int .i64 (6), .string (bs ([])), .slice (some ⟨b113, 0, none⟩) (2) (2), .slice (some ⟨b112, 0, none⟩) (2) (2)] 25), (b1, .cells #[.int .i64 (1), .string (bs ([])), .slice (none) (0) (0), .slice (none) (0) (0)] 25)] w := hF
 refine d_nil ?_
 have hR : RX w0 [] w [treeD rwT] [.int .i64 (5), .string (bs ([])), .slice (none) (0) (0), .slice (some ⟨b105, 0, none⟩) (2) (2)] := RX.tree ⟨by omega, by omega⟩ (by simp) RX.nils (hF.rowX 2 rfl (RX.append (ds := [_]) (RX.num _ (by simp)) (RX.tree ⟨by omega, by omega⟩ (by simp) RX.nils RX.nils)) (by simp) rfl (by omega))
 have hZ : RX w0 [] w [treeD wT] [.int .i64 (6), .string (bs ([])), .slice (some ⟨b113, 0, none⟩) (2) (2), .slice (some ⟨b112, 0, none⟩) (2) (2)] := RX.tree ⟨by omega, by omega⟩ (by simp) (hF.rowX 0 rfl (RX.strs (ks := [[98], [97]]) (by simp)) (by simp) rfl (by omega)) (hF.rowX 1 rfl (RX.append (ds := [_]) hR (RX.str _ (by simp))) (by simp) rfl (by omega))
 exact e_inv ⟨(b98), ([.int .i64 (6), .string (bs ([])), .slice (some ⟨b113, 0, none⟩) (2) (2), .slice (some ⟨b112, 0, none⟩) (2) (2)]), (rfl), (by simp [one]), (hZ), ⟨rfl, trivial⟩, (((((hF.front 4 rfl).front 4 rfl).erase 2).erase 2).erase 2)⟩
 clear hF; rintro σ w ⟨bz, cz, hlz, hoz, hZ, hs, hF⟩
 refine Eg.slots hs ?_
 clear hs; intro σ
 refine e_seq (c_seq (c_region (o_val (v := .agg (List.toArray cz)) (x_loadS (l := cz) Tryz.isAgg25 Tryz.sizeOf25 rfl hlz (hF.cellsAll 0 rfl)) ?_)))
 refine o_call ((by have h := comp_c wT _ _ cz hZ.rep (hG.ext hF.same) (by decide) (by decide); rw [comp_wT, comp_wT_e] at h; exact h)) (x_call1 en_16 rfl rfl) ?_
 rintro _ w ⟨rfl, hE⟩
 replace hF := hF.ext hE
 replace hZ := hZ.ext hE
 clear hE
 refine o_val (x_move rfl) (o_val (x_extract rfl rfl) (o_val (x_extract rfl rfl) (o_val (x_assign rfl) (o_val (x_assign rfl) (o_nil (e_seq (c_seq (c_region (o_val (v := .agg (List.toArray cz)) (x_loadS (l := cz) Tryz.isAgg25 Tryz.sizeOf25 rfl hlz (hF.cellsAll 0 rfl)) ?_)))))))))
 refine o_call ((by have h := canon_c wT _ _ cz hZ.rep (hG.ext hF.same) (by decide) (by decide); rw [comp_wsT, comp_wsT_e] at h; exact h)) (x_call1 en_17 rfl rfl) ?_
 rintro _ w ⟨rfl, hE⟩
 replace hF := hF.ext hE
 replace hZ := hZ.ext hE
 clear hE
 refine o_val (x_move rfl) (o_val (x_extract rfl rfl) (o_val (x_extract rfl rfl) (o_val (x_assign rfl) (o_val (x_assign rfl) (o_nil (e_seq (c_seq (c_region ?_))))))))
 refine o_call (ret_eq (v' := .agg #[.int .i64 (3), .string (bs ([49])), .slice (none) (0) (0), .slice (none) (0) (0)]) (num_c 1 (by omega) (by omega) _ (hG.ext hF.same)) (by kernel_rfl)) (x_call1 en_39 rfl rfl) ?_
 rintro _ w ⟨rfl, hE⟩
 replace hF := hF.ext hE
 replace hZ := hZ.ext hE
 clear hE
 refine o_call (row_c (none) 0 0 _) (x_call1 en_43 rfl rfl) ?_
 rintro _ w ⟨rfl, hE⟩
 replace hF := hF.ext hE
 replace hZ := hZ.ext hE
 clear hE
 refine o_new (v := fun b => .slice (some ⟨b, 0, none⟩) 2 2) hF (x_buildSlice (cs := #[.int .i64 (3), .string (bs ([49])), .slice (none) (0) (0), .slice (none) (0) (0), .int .i64 (5), .string (bs ([])), .slice (none) (0) (0), .slice (none) (0) (0)]) Tryz.underlying23 Tryz.sizeOf25 Tryz.zeroValue25 (by decide) (by decide) (by kernel_rfl)) ?_
 clear hF; intro b114 w hb114 hF hE
 replace hZ := hZ.alloc hE hb114
 clear hE
 refine o_call (row_c (some ⟨b114, 0, none⟩) 2 2 _) (x_call1 en_43 rfl rfl) ?_
 rintro _ w ⟨rfl, hE⟩
 replace hF := hF.ext hE
 replace hZ := hZ.ext hE
 clear hE
 have hP : RX w0 [] w [treeD prT] [.int .i64 (5), .string (bs ([])), .slice (none) (0) (0), .slice (some ⟨b114, 0, none⟩) (2) (2)] := RX.tree ⟨by omega, by omega⟩ (by simp) RX.nils (hF.rowX 0 rfl (RX.append (ds := [_]) (RX.num _ (by simp)) (RX.tree ⟨by omega, by omega⟩ (by simp) RX.nils RX.nils)) (by simp) rfl (by omega))
 refine o_call ((by have h := pret_c prT 2 0 _ _ [.int .i64 (5), .string (bs ([])), .slice (none) (0) (0), .slice (some ⟨b114, 0, none⟩) (2) (2)] hP.rep (hG.ext hF.same) (by decide) (by decide); rw [pret_prT, pret_prT_e] at h; exact h)) (x_call3 en_18 rfl rfl rfl rfl) ?_
 rintro _ w ⟨rfl, hE⟩
 replace hF := hF.ext hE
 replace hZ := hZ.ext hE
 clear hE
 refine o_val (x_move rfl) (o_val (x_extract rfl rfl) (o_val (x_extract rfl rfl) (o_val (x_assign rfl) (o_val (x_assign rfl) (o_nil (e_seq (c_seq (c_region ?_))))))))
 refine o_val (w' := w) (v := .agg #[.int .i64 (7), .string (bs ([48])), .slice (none) (0) (0), .slice (none) (0) (0)]) (by kernel_rfl) ?_
 refine o_call ((by have h := comp_c hlT (fun _ => True) _ [.int .i64 (7), .string (bs ([48])), .slice (none) (0) (0), .slice (none) (0) (0)] (rep_leaf 7 [48] (by decide) (by decide) _) (hG.ext hF.same) (by decide) (by decide); rw [comp_hlT_e] at h; exact h)) (x_call1 en_16 rfl rfl) ?_
 rintro _ w ⟨rfl, hE⟩
 replace hF := hF.ext hE
 replace hZ := hZ.ext hE
 clear hE
 refine o_val (x_move rfl) (o_val (x_extract rfl rfl) (o_val (x_extract rfl rfl) (o_val (x_assign rfl) (o_val (x_assign rfl) (o_nil (e_seq (c_seq (c_region (o_val (x_move rfl) (o_val (v := .bool true) (run_true (x_eql rfl rfl) (by decide)) (o_val (x_move rfl) (o_val (x_move rfl) (o_val (v := .bool true) (run_true (x_eqls rfl rfl) (by decide)) ?_)))))))))))))
 refine o_val (x_pickt rfl rfl) (o_val (x_move rfl) (o_val (x_move rfl) (o_val (v := .bool true) (run_true (x_eql rfl rfl) (by decide)) (o_val (x_pickt rfl rfl) (o_val (x_move rfl) (o_val (x_move rfl) (o_val (v := .bool true) (run_true (x_eqls rfl rfl) (by decide)) (o_val (x_pickt rfl rfl) (o_val (x_move rfl) (o_val (x_move rfl) (o_val (v := .bool true) (run_true (x_eql rfl rfl) (by decide)) (o_val (x_pickt rfl rfl) (o_val (x_move rfl) ?_)))))))))))))
 refine o_val (x_move rfl) (o_val (v := .bool true) (run_true (x_eqls rfl rfl) (by decide)) (o_val (x_pickt rfl rfl) (o_val (x_move rfl) (o_val (x_move rfl) (o_val (v := .bool true) (run_true (x_eql rfl rfl) (by decide)) (o_val (x_pickt rfl rfl) (o_val (x_assign rfl) (o_nil (e_seq ?_)))))))))
 refine c_ret (e_ret (post_ret (res_1 (v := .bool true) rfl rfl) ?_))
 exact ⟨rfl, hF.same⟩
end Go.Scarf
