/- A part of the proof. -/
import Derived.Test.YtonoededmmohhaaGreatDoorY5
import Derived.Test.YtonoededmmohhaaGreatDoorV1
set_option linter.all false
namespace Go.Scarf
open Go.RowKit Go.Proofs
set_option maxHeartbeats 2000000 in
set_option maxRecDepth 10000 in
theorem known_c (key : Str) (hkey : key.length ≤ 9223372036854775807) (k : Int) (hk : -9223372036854775808 ≤ k ∧ k ≤ 9223372036854775807) (t : Str) (ht : t.length ≤ 9223372036854775807) (w0 : World) : Calls Tryz.prog 21 #[.string (bs key), .agg #[.int .i64 k, .string (bs t), .slice none 0 0, .slice none 0 0]] w0 (Ret fun v w' => ∃ g1 g2 : Nat, v = .agg #[.int .i64 6, .string (bs []), .slice (some ⟨g1, 0, none⟩) 1 1, .slice (some ⟨g2, 0, none⟩) 1 1] ∧ Rep (Btw w0 w') w' (treeD (.node 6 [] [key] [.node k t [] []])) [.int .i64 6, .string (bs []), .slice (some ⟨g1, 0, none⟩) 1 1, .slice (some ⟨g2, 0, none⟩) 1 1] ∧ Same [] w0 w') := by
 refine calls_start Tryz.func21 rfl Tryz.ntmps21 (Nat.le_of_ble_eq_true rfl) (args_2 _ _) ?_
 have hF := FR.start w0 []
 refine c_seq (c_region ?_)
 refine o_box (v := .agg #[.int .i64 (k), .string (bs (t)), .slice (none) (0) (0), .slice (none) (0) (0)]) (cs := #[.int .i64 (k), .string (bs (t)), .slice (none) (0) (0), .slice (none) (0) (0)]) hF rfl rfl ?_
 clear hF; rintro b1 w hb1 hF -
 refine o_alloc (cs := #[.int .i64 (0), .string (bs ([])), .slice (none) (0) (0), .slice (none) (0) (0)]) hF Tryz.zeroValue32 rfl ?_
 clear hF; rintro b2 w hb2 hF -
 refine o_nil (e_seq (c_seq (c_region (o_val (x_move rfl) ?_))))
 refine o_new (v := fun b => .slice (some ⟨b, 0, none⟩) 1 1) hF (x_buildSlice (cs := #[.string (bs (key))]) Tryz.underlying22 Tryz.sizeOf9 Tryz.zeroValue9 (by decide) (by decide) (by kernel_rfl)) ?_
 clear hF; rintro b3 w hb3 hF -
 refine o_val (v := .agg #[.int .i64 (k), .string (bs (t)), .slice (none) (0) (0), .slice (none) (0) (0)]) (x_loadS (l := [.int .i64 (k), .string (bs (t)), .slice (none) (0) (0), .slice (none) (0) (0)]) Tryz.isAgg32 Tryz.sizeOf32 rfl rfl (hF.cellsAll 2 rfl)) ?_
 refine o_new (v := fun b => .slice (some ⟨b, 0, none⟩) 1 1) hF (x_buildSlice (cs := #[.int .i64 (k), .string (bs (t)), .slice (none) (0) (0), .slice (none) (0) (0)]) Tryz.underlying30 Tryz.sizeOf32 Tryz.zeroValue32 (by decide) (by decide) (by kernel_rfl)) ?_
 clear hF; rintro b4 w hb4 hF -
 refine o_call (map_c (some ⟨b3, 0, none⟩) 1 1 (some ⟨b4, 0, none⟩) 1 1 _) (x_call2 en_37 rfl rfl rfl) ?_
 rintro _ w ⟨rfl, hE⟩
 replace hF := hF.ext hE
 clear hE
 refine o_store 2 (l := [.int .i64 (6), .string (bs ([])), .slice (some ⟨b3, 0, none⟩) (1) (1), .slice (some ⟨b4, 0, none⟩) (1) (1)]) (cs' := #[.int .i64 (6), .string (bs ([])), .slice (some ⟨b3, 0, none⟩) (1) (1), .slice (some ⟨b4, 0, none⟩) (1) (1)]) hF Tryz.sizeOf32 rfl (v := .agg #[.int .i64 (6), .string (bs ([])), .slice (some ⟨b3, 0, none⟩) (1) (1), .slice (some ⟨b4, 0, none⟩) (1) (1)]) rfl rfl (by simp [one]) rfl (Nat.le_of_ble_eq_true rfl) rfl ?_
 clear hF; rintro w hF -
 replace hF : FR w0 [] [(b4, .cells #[.int .i64 (k), .string (bs (t)), .slice (none) (0) (0), .slice (none) (0) (0)] 32), (b3, .cells #[.string (bs (key))] 9), (b2, .cells #[.int .i64 (6), .string (bs ([])), .slice (some ⟨b3, 0, none⟩) (1) (1), .slice (some ⟨b4, 0, none⟩) (1) (1)] 32), (b1, .cells #[.int .i64 (k), .string (bs (t)), .slice (none) (0) (0), .slice (none) (0) (0)] 32)] w := hF
 refine o_nil (e_seq ?_)
 refine c_ret (e_ret (post_ret (res_c rfl (l := [.int .i64 (6), .string (bs ([])), .slice (some ⟨b3, 0, none⟩) (1) (1), .slice (some ⟨b4, 0, none⟩) (1) (1)]) rfl Tryz.isAgg32 Tryz.sizeOf32 rfl (hF.cellsAll 2 rfl)) ?_))
 refine ⟨_, _, rfl, ?_, hF.same⟩
 have hx : RX w0 [] w [treeD (.node k t [] [])] [.int .i64 k, .string (bs t), .slice none 0 0, .slice none 0 0] := RX.tree hk ht RX.nils RX.nils
 · exact (RX.tree (k := 6) ⟨by omega, by omega⟩ (by simp) (hF.rowX 1 rfl (RX.strs (ks := [key]) (by simpa using hkey)) (by simp) rfl (by simp)) (hF.rowX 0 rfl hx (by simp) rfl (by simp [treesD]))).done
end Go.Scarf
namespace Go.Scarf
open Go.RowKit Go.Proofs
def k1T : Tree := .node 6 [] [[105, 100]] [.node 3 [49] [] []]
def k2T : Tree := .node 6 [] [[105, 100]] [.node 4 [97] [] []]
def r12T : Tree := .node 5 [] [] [k1T, k2T]
def r11T : Tree := .node 5 [] [] [k1T, k1T]
def r0T : Tree := .node 5 [] [] []
def r1T : Tree := .node 5 [] [] [k1T]
theorem ids_12 : idsV r12T [105, 100] = some [[49], [34, 97, 34]] := by kernel_rfl
theorem ids_11 : idsV r11T [105, 100] = none := by kernel_rfl
theorem ids_0 : idsV r0T [105, 100] = some [] := by kernel_rfl
theorem item_1 : itemV r1T [105, 100] [49] = (k1T, true) := by kernel_rfl
theorem leaf5 (S : Nat → Prop) (w : World) : Rep S w (treeD r0T) [.int .i64 5, .string (bs []), .slice none 0 0, .slice none 0 0] := Rep.tree_mk ⟨by omega, by omega⟩ (by simp) (Rep.nil_slice 0 (by omega) none) (Rep.nil_slice 0 (by omega) none)
set_option maxHeartbeats 4000000 in
set_option maxRecDepth 10000 in
theorem small19_c (w0 : World) (hG : Gl w0) : Calls Tryz.prog 6 #[] w0 (Ret fun v w' => v = .bool true ∧ Same [] w0 w') := by
 refine calls_start Tryz.func6 rfl Tryz.ntmps6 (Nat.le_of_ble_eq_true rfl) (args_0) ?_
 have hF := FR.start w0 []
 refine c_seq (c_region (o_val (x_assign rfl) (o_nil (e_seq (c_seq (c_region ?_))))))
 refine o_call (ret_eq (v' := .agg #[.int .i64 (3), .string (bs ([49])), .slice (none) (0) (0), .slice (none) (0) (0)]) (num_c 1 (by omega) (by omega) _ (hG.ext hF.same)) (by kernel_rfl)) (x_call1 en_22 rfl rfl) ?_
 rintro _ w ⟨rfl, hE⟩
 replace hF := hF.ext hE
 clear hE
 refine o_call (known_c [105, 100] (by simp) 3 (by omega) [49] (by simp) _) (x_call2 en_21 rfl rfl rfl) ?_
 rintro _ w ⟨g1, g2, rfl, hRt, hE⟩
 have hK1 : RX w0 [] w [treeD k1T] [.int .i64 (6), .string (bs ([])), .slice (some ⟨g1, 0, none⟩) (1) (1), .slice (some ⟨g2, 0, none⟩) (1) (1)] := RX.made hF.same.size (fun x hx => hF.lt_ids (by grind)) hRt
 replace hF := hF.ext hE
 clear hE hRt
 refine o_lay (l := [.int .i64 (6), .string (bs ([])), .slice (some ⟨g1, 0, none⟩) (1) (1), .slice (some ⟨g2, 0, none⟩) (1) (1)]) hF Tryz.zeroValue32 Tryz.sizeOf32 rfl (v := .agg #[.int .i64 (6), .string (bs ([])), .slice (some ⟨g1, 0, none⟩) (1) (1), .slice (some ⟨g2, 0, none⟩) (1) (1)]) rfl rfl (by simp [one]) rfl ?_
 clear hF; intro b1 w hb1 hF hE
 replace hK1 := hK1.alloc hE hb1
 clear hE
 refine o_nil (e_seq (c_seq ?_))
 refine c_drawF [] (.free 0 (.act 1 (.act 2 (.act 3 (.act 4 (.act 5 (.free 6 (.free 7 (.free 8 (.free 9 (.free 10 .nil))))))))))) (by kernel_rfl) hF (by kernel_rfl) (by kernel_rfl) ?_
 clear hF; intro w hF hE
 replace hK1 := hK1.ext hE
 clear hE
 refine ⟨fun wq => FR w0 [] [(b1, .cells #[.int .i64 (6), .string (bs ([])), .slice (some ⟨g1, 0, none⟩) (1) (1), .slice (some ⟨g2, 0, none⟩) (1) (1)] 32)] wq, hF, ?_⟩
 refine f_free rfl (v := .agg #[.int .i64 (6), .string (bs ([])), .slice (some ⟨g1, 0, none⟩) (1) (1), .slice (some ⟨g2, 0, none⟩) (1) (1)]) (fun w hC => x_loadS (l := [.int .i64 (6), .string (bs ([])), .slice (some ⟨g1, 0, none⟩) (1) (1), .slice (some ⟨g2, 0, none⟩) (1) (1)]) Tryz.isAgg32 Tryz.sizeOf32 rfl rfl (hC.cellsAll 0 rfl)) ?_
 refine f_call rfl (of_c [97] _) (x_call1 en_24 rfl rfl) ?_
 rintro _ w ⟨rfl, hE⟩
 replace hF := hF.ext hE
 replace hK1 := hK1.ext hE
 clear hE
 refine ⟨hF, ?_⟩
 refine f_call rfl (known_c [105, 100] (by simp) 4 (by omega) [97] (by simp) _) (x_call2 en_21 rfl rfl rfl) ?_
 rintro _ w ⟨h1, h2, rfl, hRt, hE⟩
 replace hK1 := hK1.ext hE
 have hK2 : RX w0 [b1] w [treeD k2T] [.int .i64 (6), .string (bs ([])), .slice (some ⟨h1, 0, none⟩) (1) (1), .slice (some ⟨h2, 0, none⟩) (1) (1)] := RX.made hF.same.size (fun x hx => hF.lt_ids (by grind)) hRt
 replace hF := hF.ext hE
 clear hE hRt
 refine ⟨hF, ?_⟩
 refine f_new rfl (v := fun b => .slice (some ⟨b, 0, none⟩) 2 2) hF (x_buildSlice (cs := #[.int .i64 (6), .string (bs ([])), .slice (some ⟨g1, 0, none⟩) (1) (1), .slice (some ⟨g2, 0, none⟩) (1) (1), .int .i64 (6), .string (bs ([])), .slice (some ⟨h1, 0, none⟩) (1) (1), .slice (some ⟨h2, 0, none⟩) (1) (1)]) Tryz.underlying30 Tryz.sizeOf32 Tryz.zeroValue32 (by decide) (by decide) (by kernel_rfl)) ?_
 clear hF; intro b2 w hb2 hF hE
 replace hK1 := hK1.alloc hE hb2
 replace hK2 := hK2.alloc hE hb2
 clear hE
 refine ⟨hF.sub (.cons _ (.cons_cons _ .slnil)), ?_⟩
 refine f_call rfl (row_c (some ⟨b2, 0, none⟩) 2 2 _) (x_call1 en_23 rfl rfl) ?_
 rintro _ w ⟨rfl, hE⟩
 replace hF := hF.ext hE
 replace hK1 := hK1.ext hE
 replace hK2 := hK2.ext hE
 clear hE
 refine ⟨hF.sub (.cons _ (.cons_cons _ .slnil)), ?_⟩
 have hR_ : RX w0 _ w [treeD r12T] [.int .i64 (5), .string (bs ([])), .slice (none) (0) (0), .slice (some ⟨b2, 0, none⟩) (2) (2)] := RX.tree ⟨by omega, by omega⟩ (by simp) RX.nils (hF.rowX 0 rfl (RX.append (ds := [_]) (hK1.sub (ids' := []) (by simp)) (hK2.sub (ids' := []) (by simp))) (by simp) rfl (by simp [treesD]))
 refine f_call rfl ((by have h := ids_c r12T [105, 100] (by decide) (by decide) _ _ _ hR_.rep (hG.ext hF.same); rw [ids_12] at h; exact h)) (x_call2 en_13 rfl rfl rfl) ?_
 rintro _ w ⟨A_hL1, c_hL1, rfl, hL_, hE⟩
 have hL1 : Rep (fun _ => True) w (strsD [[49], [34, 97, 34]]) [.slice A_hL1 2 c_hL1] := hL_.weaken fun _ _ _ => trivial
 replace hK1 := hK1.ext hE
 replace hK2 := hK2.ext hE
 replace hF := hF.ext hE
 clear hE hL_
 refine ⟨hF.sub (.cons _ (.cons_cons _ .slnil)), ?_⟩
 refine f_free rfl (v := .tuple #[.slice (A_hL1) (2) (c_hL1), .bool true]) (fun w hC => x_move rfl) (f_free rfl (v := .slice (A_hL1) (2) (c_hL1)) (fun w hC => x_extract rfl rfl) (f_free rfl (v := .bool true) (fun w hC => x_extract rfl rfl) (f_free rfl (v := .slice (A_hL1) (2) (c_hL1)) (fun w hC => x_assign rfl) (f_free rfl (v := .bool true) (fun w hC => x_assign rfl) (d_nil (e_seq (c_seq (c_region (o_val (v := .agg #[.int .i64 (6), .string (bs ([])), .slice (some ⟨g1, 0, none⟩) (1) (1), .slice (some ⟨g2, 0, none⟩) (1) (1)]) (x_loadS (l := [.int .i64 (6), .string (bs ([])), .slice (some ⟨g1, 0, none⟩) (1) (1), .slice (some ⟨g2, 0, none⟩) (1) (1)]) Tryz.isAgg32 Tryz.sizeOf32 rfl rfl (hF.cellsAll 1 rfl)) (o_val (v := .agg #[.int .i64 (6), .string (bs ([])), .slice (some ⟨g1, 0, none⟩) (1) (1), .slice (some ⟨g2, 0, none⟩) (1) (1)]) (x_loadS (l := [.int .i64 (6), .string (bs ([])), .slice (some ⟨g1, 0, none⟩) (1) (1), .slice (some ⟨g2, 0, none⟩) (1) (1)]) Tryz.isAgg32 Tryz.sizeOf32 rfl rfl (hF.cellsAll 1 rfl)) ?_))))))))))
 refine o_new (v := fun b => .slice (some ⟨b, 0, none⟩) 2 2) hF (x_buildSlice (cs := #[.int .i64 (6), .string (bs ([])), .slice (some ⟨g1, 0, none⟩) (1) (1), .slice (some ⟨g2, 0, none⟩) (1) (1), .int .i64 (6), .string (bs ([])), .slice (some ⟨g1, 0, none⟩) (1) (1), .slice (some ⟨g2, 0, none⟩) (1) (1)]) Tryz.underlying30 Tryz.sizeOf32 Tryz.zeroValue32 (by decide) (by decide) (by kernel_rfl)) ?_
 clear hF; intro b3 w hb3 hF hE
 replace hK1 := hK1.alloc hE hb3
 replace hK2 := hK2.alloc hE hb3
 replace hL1 := hL1.ext hE
 clear hE
 refine o_call (row_c (some ⟨b3, 0, none⟩) 2 2 _) (x_call1 en_23 rfl rfl) ?_
 rintro _ w ⟨rfl, hE⟩
 replace hF := hF.ext hE
 replace hK1 := hK1.ext hE
 replace hK2 := hK2.ext hE
 replace hL1 := hL1.ext hE
 clear hE
 have hR_ : RX w0 _ w [treeD r11T] [.int .i64 (5), .string (bs ([])), .slice (none) (0) (0), .slice (some ⟨b3, 0, none⟩) (2) (2)] := RX.tree ⟨by omega, by omega⟩ (by simp) RX.nils (hF.rowX 0 rfl (RX.append (ds := [_]) (hK1.sub (ids' := []) (by simp)) (hK1.sub (ids' := []) (by simp))) (by simp) rfl (by simp [treesD]))
 refine o_call ((by have h := ids_c r11T [105, 100] (by decide) (by decide) _ _ _ hR_.rep (hG.ext hF.same); rw [ids_11] at h; exact h)) (x_call2 en_13 rfl rfl rfl) ?_
 rintro _ w ⟨A_hL2, c_hL2, rfl, hL_, hE⟩
 replace hK1 := hK1.ext hE
 replace hK2 := hK2.ext hE
 replace hL1 := hL1.ext hE
 replace hF := hF.ext hE
 clear hE hL_
 refine o_val (x_move rfl) (o_val (x_extract rfl rfl) (o_val (x_extract rfl rfl) (o_val (x_assign rfl) (o_val (x_assign rfl) (o_nil (e_seq (c_seq (c_region ?_))))))))
 refine o_call (row_c (none) 0 0 _) (x_call1 en_23 rfl rfl) ?_
 rintro _ w ⟨rfl, hE⟩
 replace hF := hF.ext hE
 replace hK1 := hK1.ext hE
 replace hK2 := hK2.ext hE
 replace hL1 := hL1.ext hE
 clear hE
 refine o_call ((by have h := ids_c r0T [105, 100] (by decide) (by decide) _ _ _ (leaf5 (fun _ => True) _) (hG.ext hF.same); rw [ids_0] at h; exact h)) (x_call2 en_13 rfl rfl rfl) ?_
 rintro _ w ⟨A_hL3, c_hL3, rfl, hL_, hE⟩
 have hL3 : Rep (fun _ => True) w (strsD []) [.slice A_hL3 0 c_hL3] := hL_.weaken fun _ _ _ => trivial
 replace hK1 := hK1.ext hE
 replace hK2 := hK2.ext hE
 replace hL1 := hL1.ext hE
 replace hF := hF.ext hE
 clear hE hL_
 refine o_val (x_move rfl) (o_val (x_extract rfl rfl) (o_val (x_extract rfl rfl) (o_val (x_assign rfl) (o_val (x_assign rfl) (o_nil (e_seq (c_seq (c_region (o_val (v := .agg #[.int .i64 (6), .string (bs ([])), .slice (some ⟨g1, 0, none⟩) (1) (1), .slice (some ⟨g2, 0, none⟩) (1) (1)]) (x_loadS (l := [.int .i64 (6), .string (bs ([])), .slice (some ⟨g1, 0, none⟩) (1) (1), .slice (some ⟨g2, 0, none⟩) (1) (1)]) Tryz.isAgg32 Tryz.sizeOf32 rfl rfl (hF.cellsAll 2 rfl)) ?_)))))))))
 refine o_new (v := fun b => .slice (some ⟨b, 0, none⟩) 1 1) hF (x_buildSlice (cs := #[.int .i64 (6), .string (bs ([])), .slice (some ⟨g1, 0, none⟩) (1) (1), .slice (some ⟨g2, 0, none⟩) (1) (1)]) Tryz.underlying30 Tryz.sizeOf32 Tryz.zeroValue32 (by decide) (by decide) (by kernel_rfl)) ?_
 clear hF; intro b4 w hb4 hF hE
 replace hK1 := hK1.alloc hE hb4
 replace hK2 := hK2.alloc hE hb4
 replace hL1 := hL1.ext hE
 replace hL3 := hL3.ext hE
 clear hE
 refine o_call (row_c (some ⟨b4, 0, none⟩) 1 1 _) (x_call1 en_23 rfl rfl) ?_
 rintro _ w ⟨rfl, hE⟩
 replace hF := hF.ext hE
 replace hK1 := hK1.ext hE
 replace hK2 := hK2.ext hE
 replace hL1 := hL1.ext hE
 replace hL3 := hL3.ext hE
 clear hE
 have hR_ : RX w0 _ w [treeD r1T] [.int .i64 (5), .string (bs ([])), .slice (none) (0) (0), .slice (some ⟨b4, 0, none⟩) (1) (1)] := RX.tree ⟨by omega, by omega⟩ (by simp) RX.nils (hF.rowX 0 rfl (hK1.sub (ids' := []) (by simp)) (by simp) rfl (by simp [treesD]))
 refine o_call ((by have h := keyItem_c r1T [105, 100] [49] (by decide) (by decide) _ _ _ hR_.rep (hG.ext hF.same); rw [item_1] at h; exact h)) (x_call3 en_15 rfl rfl rfl rfl) ?_
 rintro _ w ⟨ct, rfl, hRt, hE⟩
 have hlt : ct.length = 4 := hRt.length.trans (size_treeD _)
 have hot := hRt.one_
 have hX9 : Rep (fun _ => True) w (treeD k1T) ct := hRt.weaken fun _ _ _ => trivial
 replace hK1 := hK1.ext hE
 replace hK2 := hK2.ext hE
 replace hL1 := hL1.ext hE
 replace hL3 := hL3.ext hE
 replace hF := hF.ext hE
 clear hE hRt
 refine o_val (x_move rfl) (o_val (x_extract rfl rfl) (o_val (x_extract rfl rfl) ?_))
 refine o_lay (l := ct) hF Tryz.zeroValue32 (by rw [hlt]; exact Tryz.sizeOf32) (by rw [hlt]; rfl) (v := .agg (List.toArray ct)) rfl rfl (hot) rfl ?_
 clear hF; intro b5 w hb5 hF hE
 replace hK1 := hK1.alloc hE hb5
 replace hK2 := hK2.alloc hE hb5
 replace hL1 := hL1.ext hE
 replace hL3 := hL3.ext hE
 replace hX9 := hX9.ext hE
 clear hE
 refine o_val (x_assign rfl) (o_nil (e_seq (c_seq (c_region (o_val (x_move rfl) (o_val (x_move rfl) (o_val (x_move rfl) ?_)))))))
 refine o_new (v := fun b => .slice (some ⟨b, 0, none⟩) 2 2) hF (x_buildSlice (cs := #[.string (bs ([49])), .string (bs ([34, 97, 34]))]) Tryz.underlying22 Tryz.sizeOf9 Tryz.zeroValue9 (by decide) (by decide) (by kernel_rfl)) ?_
 clear hF; intro b6 w hb6 hF hE
 replace hK1 := hK1.alloc hE hb6
 replace hK2 := hK2.alloc hE hb6
 replace hL1 := hL1.ext hE
 replace hL3 := hL3.ext hE
 replace hX9 := hX9.ext hE
 clear hE
 refine o_call (ret_eq (v' := .bool true) (same07_c [[49], [34, 97, 34]] [[49], [34, 97, 34]] _ _ _ _ _ _ _ hL1 (hF.rowX (ids := []) 0 rfl (RX.strs (ks := [[49], [34, 97, 34]]) (by simp)) (by simp) rfl (by simp)).rep) (congrArg Value.bool (decide_eq_true rfl))) (x_call2 en_8 rfl rfl rfl) ?_
 rintro _ w ⟨rfl, hE⟩
 replace hF := hF.ext hE
 replace hK1 := hK1.ext hE
 replace hK2 := hK2.ext hE
 replace hL1 := hL1.ext hE
 replace hL3 := hL3.ext hE
 replace hX9 := hX9.ext hE
 clear hE
 refine o_val (x_pickt rfl rfl) (o_val (x_move rfl) (o_val (x_move rfl) (o_val (v := .bool true) (x_not (b := false) rfl) (o_val (x_pickt rfl rfl) (o_val (x_move rfl) (o_val (x_move rfl) (o_val (x_pickt rfl rfl) (o_val (x_move rfl) (o_val (x_move rfl) (o_val (v := .int .i64 (0)) (x_len_slice Tryz.underlying22 rfl) (o_val (v := .bool true) (run_true (x_eql rfl rfl) (by decide)) (o_val (x_pickt rfl rfl) (o_val (x_move rfl) ?_)))))))))))))
 refine o_val (x_move rfl) (o_val (x_pickt rfl rfl) (o_val (x_move rfl) (o_val (v := .agg (List.toArray ct)) (x_loadS (l := ct) Tryz.isAgg32 Tryz.sizeOf32 rfl hlt (hF.cellsAll 1 rfl)) (o_val (v := .agg #[.int .i64 (6), .string (bs ([])), .slice (some ⟨g1, 0, none⟩) (1) (1), .slice (some ⟨g2, 0, none⟩) (1) (1)]) (x_loadS (l := [.int .i64 (6), .string (bs ([])), .slice (some ⟨g1, 0, none⟩) (1) (1), .slice (some ⟨g2, 0, none⟩) (1) (1)]) Tryz.isAgg32 Tryz.sizeOf32 rfl rfl (hF.cellsAll 5 rfl)) ?_))))
 refine o_call (ret_eq (v' := .bool true) (equal_c k1T k1T _ _ _ ct [.int .i64 (6), .string (bs ([])), .slice (some ⟨g1, 0, none⟩) (1) (1), .slice (some ⟨g2, 0, none⟩) (1) (1)] hX9 hK1.rep) (congrArg Value.bool (eqT_self _))) (x_call2 en_17 rfl rfl rfl) ?_
 rintro _ w ⟨rfl, hE⟩
 replace hF := hF.ext hE
 replace hK1 := hK1.ext hE
 replace hK2 := hK2.ext hE
 replace hL1 := hL1.ext hE
 replace hL3 := hL3.ext hE
 replace hX9 := hX9.ext hE
 clear hE
 refine o_val (x_pickt rfl rfl) (o_val (x_move rfl) ?_)
 refine o_new (v := fun b => .slice (some ⟨b, 0, none⟩) 1 1) hF (x_buildSlice (cs := #[.string (bs ([97]))]) Tryz.underlying22 Tryz.sizeOf9 Tryz.zeroValue9 (by decide) (by decide) (by kernel_rfl)) ?_
 clear hF; intro b7 w hb7 hF hE
 replace hK1 := hK1.alloc hE hb7
 replace hK2 := hK2.alloc hE hb7
 replace hL1 := hL1.ext hE
 replace hL3 := hL3.ext hE
 replace hX9 := hX9.ext hE
 clear hE
 refine o_new (v := fun b => .slice (some ⟨b, 0, none⟩) 2 2) hF (x_buildSlice (cs := #[.string (bs ([98])), .string (bs ([97]))]) Tryz.underlying22 Tryz.sizeOf9 Tryz.zeroValue9 (by decide) (by decide) (by kernel_rfl)) ?_
 clear hF; intro b8 w hb8 hF hE
 replace hK1 := hK1.alloc hE hb8
 replace hK2 := hK2.alloc hE hb8
 replace hL1 := hL1.ext hE
 replace hL3 := hL3.ext hE
 replace hX9 := hX9.ext hE
 clear hE
 refine o_new (v := fun b => .slice (some ⟨b, 0, none⟩) 2 2) hF (x_buildSlice (cs := #[.slice (some ⟨b7, 0, none⟩) (1) (1), .slice (some ⟨b8, 0, none⟩) (2) (2)]) Tryz.underlying28 Tryz.sizeOf22 Tryz.zeroValue22 (by decide) (by decide) (by kernel_rfl)) ?_
 clear hF; intro b9 w hb9 hF hE
 replace hK1 := hK1.alloc hE hb9
 replace hK2 := hK2.alloc hE hb9
 replace hL1 := hL1.ext hE
 replace hL3 := hL3.ext hE
 replace hX9 := hX9.ext hE
 clear hE
 refine o_call ((by have h := union_c [[[97]], [[98], [97]]] _ _ _ _ (hF.rowX (ids := []) 0 rfl (RX.append (ds := [_]) (hF.rowX (ids := []) 2 rfl (RX.strs (ks := [[97]]) (by simp)) (by simp) rfl (by simp)) (hF.rowX (ids := []) 1 rfl (RX.strs (ks := [[98], [97]]) (by simp)) (by simp) rfl (by simp))) (by simp) rfl (by simp)).rep (by decide) (by decide); exact h)) (x_call1 en_9 rfl rfl) ?_
 rintro _ w ⟨A_u, c_u, rfl, hU_, hE⟩
 have hU : Rep (fun _ => True) w (strsD [[97], [98]]) [.slice A_u 2 c_u] := hU_.weaken fun _ _ _ => trivial
 replace hF := hF.ext hE
 clear hE hU_
 refine o_new (v := fun b => .slice (some ⟨b, 0, none⟩) 2 2) hF (x_buildSlice (cs := #[.string (bs ([97])), .string (bs ([98]))]) Tryz.underlying22 Tryz.sizeOf9 Tryz.zeroValue9 (by decide) (by decide) (by kernel_rfl)) ?_
 clear hF; intro b10 w hb10 hF hE
 replace hU := hU.ext hE
 clear hE
 refine o_call (ret_eq (v' := .bool true) (same07_c [[97], [98]] [[97], [98]] _ _ _ _ _ _ _ hU (hF.rowX (ids := []) 0 rfl (RX.strs (ks := [[97], [98]]) (by simp)) (by simp) rfl (by simp)).rep) (congrArg Value.bool (decide_eq_true rfl))) (x_call2 en_8 rfl rfl rfl) ?_
 rintro _ w ⟨rfl, hE⟩
 replace hF := hF.ext hE
 replace hU := hU.ext hE
 clear hE
 refine o_val (x_pickt rfl rfl) (o_val (x_assign rfl) (o_nil (e_seq ?_)))
 refine c_ret (e_ret (post_ret (res_1 (v := .bool true) rfl rfl) ?_))
 exact ⟨rfl, hF.same⟩
end Go.Scarf
