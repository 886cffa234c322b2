/- A part of the proof. -/
import Derived.Test.YtehmojdjpmliaaaGreatDoorW19
set_option linter.all false
namespace Go.Scarf
open Go.RowKit Go.Proofs
abbrev n1T : Tree := .node 3 [49] [] []
abbrev n2T : Tree := .node 3 [50] [] []
abbrev xT : Tree := .node 6 [] [[97], [98]] [n1T, n2T]
abbrev yT : Tree := .node 6 [] [[98], [97]] [n2T, n1T]
abbrev zT : Tree := .node 5 [] [] [n1T, .node 5 [] [] [n2T]]
theorem sortS_ba : sortS [[98], [97]] = [[97], [98]] :=
  (sortS_of_perm (List.Perm.swap [98] [97] [])).symm.trans (List.mergeSort_of_pairwise (by decide))
theorem sorted_yT : sortedV yT = xT := by
  have ho : openB yT = true := by kernel_rfl
  rw [sortedV, if_pos ho, sortT, if_pos rfl, sortS_ba]
  simp [sortTs, lookT, sortT]
section
variable {P : Program} {w0 w w' : World} {ids : List Nat} {ds : List D}
theorem run_true {P : Program} {ρ : Operand → Value} {o : Oper} {w w' : World} {p : Prop} {_ : Decidable p} (h : (execOp ρ o).run P w = .ok (.value (.bool (decide p))) w') (hp : p) : (execOp ρ o).run P w = .ok (.value (.bool true)) w' := by rw [h, decide_eq_true hp]
theorem run_false {P : Program} {ρ : Operand → Value} {o : Oper} {w w' : World} {p : Prop} {_ : Decidable p} (h : (execOp ρ o).run P w = .ok (.value (.bool (decide p))) w') (hp : ¬ p) : (execOp ρ o).run P w = .ok (.value (.bool false)) w' := by rw [h, decide_eq_false hp]
theorem FR.rowX {bs : List (Nat × Obj)} (hF : FR w0 [] bs w) (i : Nat) {b n : Nat} {l : List Value} {T : TypeId} (hi : bs[i]? = some (b, .cells l.toArray T)) (hr : RX w0 ids w ds l) (hb : b ∉ ids) (hn : ds.length = n) (hm : n ≤ 9223372036854775807) :
    RX w0 ids w [.slice ds] [.slice (some ⟨b, 0, none⟩) n n] := by
  refine .one (Rep.slice_mk hn.symm (Nat.le_refl _) hm fun _ => ⟨_, rfl, l, fun j hj => ⟨?_, ?_⟩, hr⟩)
  · exact hF.cellsAll i hi j hj
  · exact ⟨hF.ge hi, hF.lt hi, hb, l.toArray, T, hF.heap hi⟩
theorem RX.tree {k : Int} {t : Str} {ks : List Str} {xs : List Tree} {v u : Value} (hk : -9223372036854775808 ≤ k ∧ k ≤ 9223372036854775807) (ht : t.length ≤ 9223372036854775807)
    (h3 : RX w0 ids w [strsD ks] [v]) (h4 : RX w0 ids w [.slice (treesD xs)] [u]) : RX w0 ids w [treeD (.node k t ks xs)] [.int .i64 k, .string (bs t), v, u] := .one (Rep.tree_mk hk ht h3.rep h4.rep)
theorem RX.nils {ids : List Nat} : RX w0 ids w [.slice []] [.slice none 0 0] := .one (Rep.nil_slice 0 (by omega) none)
theorem RX.strs : ∀ {ks : List Str}, (∀ k ∈ ks, k.length ≤ 9223372036854775807) → RX w0 ids w (ks.map strD) (ks.map fun k => .string (bs k))
  | [], _ => RX.nil
  | k :: ks, h => RepL.cons_mk (Rep.lit_mk (v := .string (bs k)) (h k (by simp))) (RX.strs (fun x hx => h x (by simp [hx])))
theorem RX.num (t : Str) (ht : t.length ≤ 9223372036854775807) : RX w0 ids w [treeD (.node 3 t [] [])] [.int .i64 3, .string (bs t), .slice none 0 0, .slice none 0 0] := RX.tree ⟨by omega, by omega⟩ ht RX.nils RX.nils
theorem RX.str (t : Str) (ht : t.length ≤ 9223372036854775807) : RX w0 ids w [treeD (.node 4 t [] [])] [.int .i64 4, .string (bs t), .slice none 0 0, .slice none 0 0] := RX.tree ⟨by omega, by omega⟩ ht RX.nils RX.nils
end
set_option maxHeartbeats 4000000 in
set_option maxRecDepth 10000 in
theorem small_c (w0 : World) (hG : Gl w0) : Calls Tryz.prog 27 #[] w0 (Ret fun v w' => v = .bool true ∧ Same [] w0 w') := by
 have okX : okT xT := by simp [okT, okTs]
 have okY : okT yT := by simp [okT, okTs]
 refine calls_start Tryz.func27 rfl Tryz.ntmps27 (Nat.le_of_ble_eq_true rfl) (args_0) ?_
 have hF := FR.start w0 []
 refine c_seq (c_region (o_val (v := .bool false) (x_assign rfl) (o_nil (e_seq (c_seq (c_region ?_))))))
 refine o_call (ret_eq (v' := .agg #[.int .i64 (3), .string (bs ([49])), .slice (none) (0) (0), .slice (none) (0) (0)]) (num_c 1 (by omega) (by omega) _ (hG.ext hF.same)) (by kernel_rfl)) (x_call1 en_39 rfl rfl) ?_
 rintro _ w ⟨rfl, hE⟩
 replace hF := hF.ext hE
 clear hE
 refine o_lay (l := [.int .i64 (3), .string (bs ([49])), .slice (none) (0) (0), .slice (none) (0) (0)]) hF Tryz.zeroValue25 Tryz.sizeOf25 rfl (v := .agg #[.int .i64 (3), .string (bs ([49])), .slice (none) (0) (0), .slice (none) (0) (0)]) rfl rfl (by simp [one]) rfl ?_
 clear hF; rintro b1 w hb1 hF -
 refine o_nil (e_seq (c_seq (c_region ?_)))
 refine o_call (ret_eq (v' := .agg #[.int .i64 (3), .string (bs ([50])), .slice (none) (0) (0), .slice (none) (0) (0)]) (num_c 2 (by omega) (by omega) _ (hG.ext hF.same)) (by kernel_rfl)) (x_call1 en_39 rfl rfl) ?_
 rintro _ w ⟨rfl, hE⟩
 replace hF := hF.ext hE
 clear hE
 refine o_lay (l := [.int .i64 (3), .string (bs ([50])), .slice (none) (0) (0), .slice (none) (0) (0)]) hF Tryz.zeroValue25 Tryz.sizeOf25 rfl (v := .agg #[.int .i64 (3), .string (bs ([50])), .slice (none) (0) (0), .slice (none) (0) (0)]) rfl rfl (by simp [one]) rfl ?_
 clear hF; rintro b2 w hb2 hF -
 refine o_nil (e_seq (c_seq (c_region ?_)))
 refine o_new (v := fun b => .slice (some ⟨b, 0, none⟩) 2 2) hF (x_buildSlice (cs := #[.string (bs ([97])), .string (bs ([98]))]) Tryz.underlying22 Tryz.sizeOf9 Tryz.zeroValue9 (by decide) (by decide) (by kernel_rfl)) ?_
 clear hF; rintro b3 w hb3 hF -
 refine o_val (v := .agg #[.int .i64 (3), .string (bs ([49])), .slice (none) (0) (0), .slice (none) (0) (0)]) (x_loadS (l := [.int .i64 (3), .string (bs ([49])), .slice (none) (0) (0), .slice (none) (0) (0)]) Tryz.isAgg25 Tryz.sizeOf25 rfl rfl (hF.cellsAll 2 rfl)) (o_val (v := .agg #[.int .i64 (3), .string (bs ([50])), .slice (none) (0) (0), .slice (none) (0) (0)]) (x_loadS (l := [.int .i64 (3), .string (bs ([50])), .slice (none) (0) (0), .slice (none) (0) (0)]) Tryz.isAgg25 Tryz.sizeOf25 rfl rfl (hF.cellsAll 1 rfl)) ?_)
 refine o_new (v := fun b => .slice (some ⟨b, 0, none⟩) 2 2) hF (x_buildSlice (cs := #[.int .i64 (3), .string (bs ([49])), .slice (none) (0) (0), .slice (none) (0) (0), .int .i64 (3), .string (bs ([50])), .slice (none) (0) (0), .slice (none) (0) (0)]) Tryz.underlying23 Tryz.sizeOf25 Tryz.zeroValue25 (by decide) (by decide) (by kernel_rfl)) ?_
 clear hF; rintro b4 w hb4 hF -
 refine o_call (map_c (some ⟨b3, 0, none⟩) 2 2 (some ⟨b4, 0, none⟩) 2 2 _) (x_call2 en_49 rfl rfl rfl) ?_
 rintro _ w ⟨rfl, hE⟩
 replace hF := hF.ext hE
 clear hE
 refine o_lay (l := [.int .i64 (6), .string (bs ([])), .slice (some ⟨b3, 0, none⟩) (2) (2), .slice (some ⟨b4, 0, none⟩) (2) (2)]) hF Tryz.zeroValue25 Tryz.sizeOf25 rfl (v := .agg #[.int .i64 (6), .string (bs ([])), .slice (some ⟨b3, 0, none⟩) (2) (2), .slice (some ⟨b4, 0, none⟩) (2) (2)]) rfl rfl (by simp [one]) rfl ?_
 clear hF; rintro b5 w hb5 hF -
 refine o_nil (e_seq (c_seq (c_region ?_)))
 have hX : RX w0 [] w [treeD xT] [.int .i64 6, .string (bs []), .slice (some ⟨b3, 0, none⟩) (2) (2), .slice (some ⟨b4, 0, none⟩) (2) (2)] := RX.tree ⟨by omega, by omega⟩ (by simp) (hF.rowX 2 rfl (RX.strs (ks := [[97], [98]]) (by simp)) (by simp) rfl (by omega)) (hF.rowX 1 rfl (RX.append (ds := [_]) (RX.num _ (by simp)) (RX.num _ (by simp))) (by simp) rfl (by omega))
 refine o_new (v := fun b => .slice (some ⟨b, 0, none⟩) 2 2) hF (x_buildSlice (cs := #[.string (bs ([98])), .string (bs ([97]))]) Tryz.underlying22 Tryz.sizeOf9 Tryz.zeroValue9 (by decide) (by decide) (by kernel_rfl)) ?_
 clear hF; intro b6 w hb6 hF hE
 replace hX := hX.alloc hE hb6
 clear hE
 refine o_val (v := .agg #[.int .i64 (3), .string (bs ([50])), .slice (none) (0) (0), .slice (none) (0) (0)]) (x_loadS (l := [.int .i64 (3), .string (bs ([50])), .slice (none) (0) (0), .slice (none) (0) (0)]) Tryz.isAgg25 Tryz.sizeOf25 rfl rfl (hF.cellsAll 4 rfl)) (o_val (v := .agg #[.int .i64 (3), .string (bs ([49])), .slice (none) (0) (0), .slice (none) (0) (0)]) (x_loadS (l := [.int .i64 (3), .string (bs ([49])), .slice (none) (0) (0), .slice (none) (0) (0)]) Tryz.isAgg25 Tryz.sizeOf25 rfl rfl (hF.cellsAll 5 rfl)) ?_)
 refine o_new (v := fun b => .slice (some ⟨b, 0, none⟩) 2 2) hF (x_buildSlice (cs := #[.int .i64 (3), .string (bs ([50])), .slice (none) (0) (0), .slice (none) (0) (0), .int .i64 (3), .string (bs ([49])), .slice (none) (0) (0), .slice (none) (0) (0)]) Tryz.underlying23 Tryz.sizeOf25 Tryz.zeroValue25 (by decide) (by decide) (by kernel_rfl)) ?_
 clear hF; intro b7 w hb7 hF hE
 replace hX := hX.alloc hE hb7
 clear hE
 refine o_call (map_c (some ⟨b6, 0, none⟩) 2 2 (some ⟨b7, 0, none⟩) 2 2 _) (x_call2 en_49 rfl rfl rfl) ?_
 rintro _ w ⟨rfl, hE⟩
 replace hF := hF.ext hE
 replace hX := hX.ext hE
 clear hE
 refine o_lay (l := [.int .i64 (6), .string (bs ([])), .slice (some ⟨b6, 0, none⟩) (2) (2), .slice (some ⟨b7, 0, none⟩) (2) (2)]) hF Tryz.zeroValue25 Tryz.sizeOf25 rfl (v := .agg #[.int .i64 (6), .string (bs ([])), .slice (some ⟨b6, 0, none⟩) (2) (2), .slice (some ⟨b7, 0, none⟩) (2) (2)]) rfl rfl (by simp [one]) rfl ?_
 clear hF; intro b8 w hb8 hF hE
 replace hX := hX.alloc hE hb8
 clear hE
 refine o_nil (e_seq ?_)
 have hY : RX w0 [] w [treeD yT] [.int .i64 6, .string (bs []), .slice (some ⟨b6, 0, none⟩) (2) (2), .slice (some ⟨b7, 0, none⟩) (2) (2)] := RX.tree ⟨by omega, by omega⟩ (by simp) (hF.rowX 2 rfl (RX.strs (ks := [[98], [97]]) (by simp)) (by simp) rfl (by omega)) (hF.rowX 1 rfl (RX.append (ds := [_]) (RX.num _ (by simp)) (RX.num _ (by simp))) (by simp) rfl (by omega))
 refine c_seq ?_
 refine c_join (fun σ w => ∃ (bz : Nat), ∃ (cz : List Value), (cz.length = 4) ∧ (∀ v ∈ cz, one v = true) ∧ (RX w0 [] w [treeD zT] cz) ∧ (RX w0 [] w [treeD xT] [.int .i64 6, .string (bs []), .slice (some ⟨b3, 0, none⟩) 2 2, .slice (some ⟨b4, 0, none⟩) 2 2]) ∧ (RX w0 [] w [treeD yT] [.int .i64 6, .string (bs []), .slice (some ⟨b6, 0, none⟩) 2 2, .slice (some ⟨b7, 0, none⟩) 2 2]) ∧ AllEq σ [(1, .pointer (some ⟨b1, 0, none⟩)), (2, .pointer (some ⟨b2, 0, none⟩)), (3, .pointer (some ⟨b5, 0, none⟩)), (4, .pointer (some ⟨b8, 0, none⟩)), (5, .pointer (some ⟨bz, 0, none⟩))] ∧ FR w0 [] [(bz, .cells (List.toArray cz) 25), (b8, .cells #[.int .i64 (6), .string (bs ([])), .slice (some ⟨b6, 0, none⟩) (2) (2), .slice (some ⟨b7, 0, none⟩) (2) (2)] 25), (b7, .cells #[.int .i64 (3), .string (bs ([50])), .slice (none) (0) (0), .slice (none) (0) (0), .int .i64 (3), .string (bs ([49])), .slice (none) (0) (0), .slice (none) (0) (0)] 25), (b6, .cells #[.string (bs ([98])), .string (bs ([97]))] 9), (b5, .cells #[.int .i64 (6), .string (bs ([])), .slice (some ⟨b3, 0, none⟩) (2) (2), .slice (some ⟨b4, 0, none⟩) (2) (2)] 25), (b4, .cells #[.int .i64 (3), .string (bs ([49])), .slice (none) (0) (0), .slice (none) (0) (0), .int .i64 (3), .string (bs ([50])), .slice (none) (0) (0), .slice (none) (0) (0)] 25), (b3, .cells #[.string (bs ([97])), .string (bs ([98]))] 9), (b2, .cells #[.int .i64 (3), .string (bs ([50])), .slice (none) (0) (0), .slice (none) (0) (0)] 25), (b1, .cells #[.int .i64 (3), .string (bs ([49])), .slice (none) (0) (0), .slice (none) (0) (0)] 25)] w) ?_ ?_
 refine c_drawF [7] (.free 0 (.free 1 (.alt 2 (.alt 3 (.alt 4 (.alt 5 (.act 6 (.act 7 .nil)) (.act 6 (.act 5 (.act 7 .nil)))) (.act 6 (.act 4 (.act 5 (.act 7 .nil))))) (.act 6 (.act 3 (.act 4 (.act 5 (.act 7 .nil)))))) (.act 6 (.act 2 (.act 3 (.act 4 (.act 5 (.act 7 .nil))))))))) (by kernel_rfl) hF (by kernel_rfl) (by kernel_rfl) ?_
 clear hF; intro w hF hE
 replace hX := hX.ext hE
 replace hY := hY.ext hE
 clear hE
 refine ⟨fun wq => FR w0 [] [(b8, .cells #[.int .i64 (6), .string (bs ([])), .slice (some ⟨b6, 0, none⟩) (2) (2), .slice (some ⟨b7, 0, none⟩) (2) (2)] 25), (b7, .cells #[.int .i64 (3), .string (bs ([50])), .slice (none) (0) (0), .slice (none) (0) (0), .int .i64 (3), .string (bs ([49])), .slice (none) (0) (0), .slice (none) (0) (0)] 25), (b6, .cells #[.string (bs ([98])), .string (bs ([97]))] 9), (b5, .cells #[.int .i64 (6), .string (bs ([])), .slice (some ⟨b3, 0, none⟩) (2) (2), .slice (some ⟨b4, 0, none⟩) (2) (2)] 25), (b4, .cells #[.int .i64 (3), .string (bs ([49])), .slice (none) (0) (0), .slice (none) (0) (0), .int .i64 (3), .string (bs ([50])), .slice (none) (0) (0), .slice (none) (0) (0)] 25), (b3, .cells #[.string (bs ([97])), .string (bs ([98]))] 9), (b2, .cells #[.int .i64 (3), .string (bs ([50])), .slice (none) (0) (0), .slice (none) (0) (0)] 25), (b1, .cells #[.int .i64 (3), .string (bs ([49])), .slice (none) (0) (0), .slice (none) (0) (0)] 25)] wq, hF, ?_⟩
 refine f_free rfl (v := .agg #[.int .i64 (3), .string (bs ([49])), .slice (none) (0) (0), .slice (none) (0) (0)]) (fun w hC => x_loadS (l := [.int .i64 (3), .string (bs ([49])), .slice (none) (0) (0), .slice (none) (0) (0)]) Tryz.isAgg25 Tryz.sizeOf25 rfl rfl (hC.cellsAll 7 rfl)) (f_free rfl (v := .agg #[.int .i64 (3), .string (bs ([50])), .slice (none) (0) (0), .slice (none) (0) (0)]) (fun w hC => x_loadS (l := [.int .i64 (3), .string (bs ([50])), .slice (none) (0) (0), .slice (none) (0) (0)]) Tryz.isAgg25 Tryz.sizeOf25 rfl rfl (hC.cellsAll 6 rfl)) ?_)
 refine d_alt ?_ ?_
 refine f_new rfl (v := fun b => .slice (some ⟨b, 0, none⟩) 1 1) hF (x_buildSlice (cs := #[.int .i64 (3), .string (bs ([50])), .slice (none) (0) (0), .slice (none) (0) (0)]) Tryz.underlying23 Tryz.sizeOf25 Tryz.zeroValue25 (by decide) (by decide) (by kernel_rfl)) ?_
 clear hF; intro b9 w hb9 hF hE
 replace hX := hX.alloc hE hb9
 replace hY := hY.alloc hE hb9
 clear hE
 refine ⟨hF.sub (.cons _ (.cons_cons _ (.cons_cons _ (.cons_cons _ (.cons_cons _ (.cons_cons _ (.cons_cons _ (.cons_cons _ (.cons_cons _ .slnil))))))))), ?_⟩
 refine d_alt ?_ ?_
 refine f_call rfl (row_c (some ⟨b9, 0, none⟩) 1 1 _) (x_call1 en_43 rfl rfl) ?_
 rintro _ w ⟨rfl, hE⟩
 replace hF := hF.ext hE
 replace hX := hX.ext hE
 replace hY := hY.ext hE
 clear hE
 refine ⟨hF.sub (.cons _ (.cons_cons _ (.cons_cons _ (.cons_cons _ (.cons_cons _ (.cons_cons _ (.cons_cons _ (.cons_cons _ (.cons_cons _ .slnil))))))))), ?_⟩
 refine d_alt ?_ ?_
 refine f_new rfl (v := fun b => .slice (some ⟨b, 0, none⟩) 2 2) hF (x_buildSlice (cs := #[.int .i64 (3), .string (bs ([49])), .slice (none) (0) (0), .slice (none) (0) (0), .int .i64 (5), .string (bs ([])), .slice (none) (0) (0), .slice (some ⟨b9, 0, none⟩) (1) (1)]) Tryz.underlying23 Tryz.sizeOf25 Tryz.zeroValue25 (by decide) (by decide) (by kernel_rfl)) ?_
 clear hF; intro b10 w hb10 hF hE
 replace hX := hX.alloc hE hb10
 replace hY := hY.alloc hE hb10
 clear hE
 refine ⟨hF.sub (.cons _ (.cons _ (.cons_cons _ (.cons_cons _ (.cons_cons _ (.cons_cons _ (.cons_cons _ (.cons_cons _ (.cons_cons _ (.cons_cons _ .slnil)))))))))), ?_⟩
 refine d_alt ?_ ?_
 refine f_call rfl (row_c (some ⟨b10, 0, none⟩) 2 2 _) (x_call1 en_43 rfl rfl) ?_
 rintro _ w ⟨rfl, hE⟩
 replace hF := hF.ext hE
 replace hX := hX.ext hE
 replace hY := hY.ext hE
 clear hE
 refine ⟨hF.sub (.cons _ (.cons _ (.cons_cons _ (.cons_cons _ (.cons_cons _ (.cons_cons _ (.cons_cons _ (.cons_cons _ (.cons_cons _ (.cons_cons _ .slnil)))))))))), ?_⟩
 refine f_new rfl (v := fun b => .pointer (some ⟨b, 0, none⟩)) (o := .cells #[.int .i64 (0), .string (bs ([])), .slice (none) (0) (0), .slice (none) (0) (0)] 25) hF (x_alloc Tryz.zeroValue25) ?_
 clear hF; intro b11 w hb11 hF hE
 replace hX := hX.alloc hE hb11
 replace hY := hY.alloc hE hb11
 clear hE
 refine ⟨hF.sub (.cons _ (.cons _ (.cons _ (.cons_cons _ (.cons_cons _ (.cons_cons _ (.cons_cons _ (.cons_cons _ (.cons_cons _ (.cons_cons _ (.cons_cons _ .slnil))))))))))), ?_⟩
 refine f_storez rfl 0 (l := [.int .i64 (5), .string (bs ([])), .slice (none) (0) (0), .slice (some ⟨b10, 0, none⟩) (2) (2)]) (cs' := #[.int .i64 (5), .string (bs ([])), .slice (none) (0) (0), .slice (some ⟨b10, 0, none⟩) (2) (2)]) hF Tryz.sizeOf25 rfl (v := .agg #[.int .i64 (5), .string (bs ([])), .slice (none) (0) (0), .slice (some ⟨b10, 0, none⟩) (2) (2)]) rfl rfl (by simp [one]) rfl (Nat.le_of_ble_eq_true rfl) rfl ?_
 clear hF; intro w hF hE
 replace hX := hX.store hE (by grind)
 replace hY := hY.store hE (by grind)
 clear hE
 replace hF : FR w0 [] [(b11, .cells #[.int .i64 (5), .string (bs ([])), .slice (none) (0) (0), .slice (some ⟨b10, 0, none⟩) (2) (2)] 25), (b10, .cells #[.int .i64 (3), .string (bs ([49])), .slice (none) (0) (0), .slice (none) (0) (0), .int .i64 (5), .string (bs ([])), .slice (none) (0) (0), .slice (some ⟨b9, 0, none⟩) (1) (1)] 25), (b9, .cells #[.int .i64 (3), .string (bs ([50])), .slice (none) (0) (0), .slice (none) (0) (0)] 25), (b8, .cells #[.int .i64 (6), .string (bs ([])), .slice (some ⟨b6, 0, none⟩) (2) (2), .slice (some ⟨b7, 0, none⟩) (2) (2)] 25), (b7, .cells #[.int .i64 (3), .string (bs ([50])), .slice (none) (0) (0), .slice (none) (0) (0), .int .i64 (3), .string (bs ([49])), .slice (none) (0) (0), .slice (none) (0) (0)] 25), (b6, .cells #[.string (bs ([98])), .string (bs ([97]))] 9), (b5, .cells #[.int .i64 (6), .string (bs ([])), .slice (some ⟨b3, 0, none⟩) (2) (2), .slice (some ⟨b4, 0, none⟩) (2) (2)] 25), (b4, .cells #[.int .i64 (3), .string (bs ([49])), .slice (none) (0) (0), .slice (none) (0) (0), .int .i64 (3), .string (bs ([50])), .slice (none) (0) (0), .slice (none) (0) (0)] 25), (b3, .cells #[.string (bs ([97])), .string (bs ([98]))] 9), (b2, .cells #[.int .i64 (3), .string (bs ([50])), .slice (none) (0) (0), .slice (none) (0) (0)] 25), (b1, .cells #[.int .i64 (3), .string (bs ([49])), .slice (none) (0) (0), .slice (none) (0) (0)] 25)] w := hF
 refine d_nil ?_
 have hZi : RX w0 [] w [treeD (.node 5 [] [] [n2T])] [.int .i64 5, .string (bs []), .slice none 0 0, .slice (some ⟨b9, 0, none⟩) (1) (1)] := RX.tree ⟨by omega, by omega⟩ (by simp) RX.nils (hF.rowX 2 rfl (RX.num _ (by simp)) (by simp) rfl (by omega))
 have hZ : RX w0 [] w [treeD zT] [.int .i64 (5), .string (bs ([])), .slice (none) (0) (0), .slice (some ⟨b10, 0, none⟩) (2) (2)] := RX.tree ⟨by omega, by omega⟩ (by simp) RX.nils (hF.rowX 1 rfl (RX.append (ds := [_]) (RX.num _ (by simp)) hZi) (by simp) rfl (by omega))
 exact e_inv ⟨(b11), ([.int .i64 (5), .string (bs ([])), .slice (none) (0) (0), .slice (some ⟨b10, 0, none⟩) (2) (2)]), (rfl), (by simp [one]), (hZ), (hX.sub (by simp)), (hY.sub (by simp)), ⟨rfl, rfl, rfl, rfl, rfl, trivial⟩, (((((((((((hF.front 10 rfl).front 10 rfl).front 10 rfl).front 10 rfl).front 10 rfl).front 10 rfl).front 10 rfl).front 10 rfl).front 8 rfl).erase 9).erase 9)⟩
 refine f_new rfl (v := fun b => .pointer (some ⟨b, 0, none⟩)) (o := .cells #[.int .i64 (0), .string (bs ([])), .slice (none) (0) (0), .slice (none) (0) (0)] 25) hF (x_alloc Tryz.zeroValue25) ?_
 clear hF; intro b12 w hb12 hF hE
 replace hX := hX.alloc hE hb12
 replace hY := hY.alloc hE hb12
 clear hE
 refine ⟨hF.sub (.cons _ (.cons _ (.cons _ (.cons_cons _ (.cons_cons _ (.cons_cons _ (.cons_cons _ (.cons_cons _ (.cons_cons _ (.cons_cons _ (.cons_cons _ .slnil))))))))))), ?_⟩
 refine f_call rfl (row_c (some ⟨b10, 0, none⟩) 2 2 _) (x_call1 en_43 rfl rfl) ?_
 rintro _ w ⟨rfl, hE⟩
 replace hF := hF.ext hE
 replace hX := hX.ext hE
 replace hY := hY.ext hE
 clear hE
 refine ⟨hF.sub (.cons _ (.cons _ (.cons _ (.cons_cons _ (.cons_cons _ (.cons_cons _ (.cons_cons _ (.cons_cons _ (.cons_cons _ (.cons_cons _ (.cons_cons _ .slnil))))))))))), ?_⟩
 refine f_storez rfl 0 (l := [.int .i64 (5), .string (bs ([])), .slice (none) (0) (0), .slice (some ⟨b10, 0, none⟩) (2) (2)]) (cs' := #[.int .i64 (5), .string (bs ([])), .slice (none) (0) (0), .slice (some ⟨b10, 0, none⟩) (2) (2)]) hF Tryz.sizeOf25 rfl (v := .agg #[.int .i64 (5), .string (bs ([])), .slice (none) (0) (0), .slice (some ⟨b10, 0, none⟩) (2) (2)]) rfl rfl (by simp [one]) rfl (Nat.le_of_ble_eq_true rfl) rfl ?_
 clear hF; intro w hF hE
 replace hX := hX.store hE (by grind)
 replace hY := hY.store hE (by grind)
 clear hE
 replace hF : FR w0 [] [(b12, .cells #[.int .i64 (5), .string (bs ([])), .slice (none) (0) (0), .slice (some ⟨b10, 0, none⟩) (2) (2)] 25), (b10, .cells #[.int .i64 (3), .string (bs ([49])), .slice (none) (0) (0), .slice (none) (0) (0), .int .i64 (5), .string (bs ([])), .slice (none) (0) (0), .slice (some ⟨b9, 0, none⟩) (1) (1)] 25), (b9, .cells #[.int .i64 (3), .string (bs ([50])), .slice (none) (0) (0), .slice (none) (0) (0)] 25), (b8, .cells #[.int .i64 (6), .string (bs ([])), .slice (some ⟨b6, 0, none⟩) (2) (2), .slice (some ⟨b7, 0, none⟩) (2) (2)] 25), (b7, .cells #[.int .i64 (3), .string (bs ([50])), .slice (none) (0) (0), .slice (none) (0) (0), .int .i64 (3), .string (bs ([49])), .slice (none) (0) (0), .slice (none) (0) (0)] 25), (b6, .cells #[.string (bs ([98])), .string (bs ([97]))] 9), (b5, .cells #[.int .i64 (6), .string (bs ([])), .slice (some ⟨b3, 0, none⟩) (2) (2), .slice (some ⟨b4, 0, none⟩) (2) (2)] 25), (b4, .cells #[.int .i64 (3), .string (bs ([49])), .slice (none) (0) (0), .slice (none) (0) (0), .int .i64 (3), .string (bs ([50])), .slice (none) (0) (0), .slice (none) (0) (0)] 25), (b3, .cells #[.string (bs ([97])), .string (bs ([98]))] 9), (b2, .cells #[.int .i64 (3), .string (bs ([50])), .slice (none) (0) (0), .slice (none) (0) (0)] 25), (b1, .cells #[.int .i64 (3), .string (bs ([49])), .slice (none) (0) (0), .slice (none) (0) (0)] 25)] w := hF
 refine d_nil ?_
 have hZi : RX w0 [] w [treeD (.node 5 [] [] [n2T])] [.int .i64 5, .string (bs []), .slice none 0 0, .slice (some ⟨b9, 0, none⟩) (1) (1)] := RX.tree ⟨by omega, by omega⟩ (by simp) RX.nils (hF.rowX 2 rfl (RX.num _ (by simp)) (by simp) rfl (by omega))
 have hZ : RX w0 [] w [treeD zT] [.int .i64 (5), .string (bs ([])), .slice (none) (0) (0), .slice (some ⟨b10, 0, none⟩) (2) (2)] := RX.tree ⟨by omega, by omega⟩ (by simp) RX.nils (hF.rowX 1 rfl (RX.append (ds := [_]) (RX.num _ (by simp)) hZi) (by simp) rfl (by omega))
 exact e_inv ⟨(b12), ([.int .i64 (5), .string (bs ([])), .slice (none) (0) (0), .slice (some ⟨b10, 0, none⟩) (2) (2)]), (rfl), (by simp [one]), (hZ), (hX.sub (by simp)), (hY.sub (by simp)), ⟨rfl, rfl, rfl, rfl, rfl, trivial⟩, (((((((((((hF.front 10 rfl).front 10 rfl).front 10 rfl).front 10 rfl).front 10 rfl).front 10 rfl).front 10 rfl).front 10 rfl).front 8 rfl).erase 9).erase 9)⟩
 refine f_new rfl (v := fun b => .pointer (some ⟨b, 0, none⟩)) (o := .cells #[.int .i64 (0), .string (bs ([])), .slice (none) (0) (0), .slice (none) (0) (0)] 25) hF (x_alloc Tryz.zeroValue25) ?_
 clear hF; intro b13 w hb13 hF hE
 replace hX := hX.alloc hE hb13
 replace hY := hY.alloc hE hb13
 clear hE
 refine ⟨hF.sub (.cons _ (.cons _ (.cons_cons _ (.cons_cons _ (.cons_cons _ (.cons_cons _ (.cons_cons _ (.cons_cons _ (.cons_cons _ (.cons_cons _ .slnil)))))))))), ?_⟩
 refine f_new rfl (v := fun b => .slice (some ⟨b, 0, none⟩) 2 2) hF (x_buildSlice (cs := #[.int .i64 (3), .string (bs ([49])), .slice (none) (0) (0), .slice (none) (0) (0), .int .i64 (5), .string (bs ([])), .slice (none) (0) (0), .slice (some ⟨b9, 0, none⟩) (1) (1)]) Tryz.underlying23 Tryz.sizeOf25 Tryz.zeroValue25 (by decide) (by decide) (by kernel_rfl)) ?_
 clear hF; intro b14 w hb14 hF hE
 replace hX := hX.alloc hE hb14
 replace hY := hY.alloc hE hb14
 clear hE
 refine ⟨hF.sub (.cons _ (.cons _ (.cons _ (.cons_cons _ (.cons_cons _ (.cons_cons _ (.cons_cons _ (.cons_cons _ (.cons_cons _ (.cons_cons _ (.cons_cons _ .slnil))))))))))), ?_⟩
 refine f_call rfl (row_c (some ⟨b14, 0, none⟩) 2 2 _) (x_call1 en_43 rfl rfl) ?_
 rintro _ w ⟨rfl, hE⟩
 replace hF := hF.ext hE
 replace hX := hX.ext hE
 replace hY := hY.ext hE
 clear hE
 refine ⟨hF.sub (.cons _ (.cons _ (.cons _ (.cons_cons _ (.cons_cons _ (.cons_cons _ (.cons_cons _ (.cons_cons _ (.cons_cons _ (.cons_cons _ (.cons_cons _ .slnil))))))))))), ?_⟩
 refine f_storez rfl 1 (l := [.int .i64 (5), .string (bs ([])), .slice (none) (0) (0), .slice (some ⟨b14, 0, none⟩) (2) (2)]) (cs' := #[.int .i64 (5), .string (bs ([])), .slice (none) (0) (0), .slice (some ⟨b14, 0, none⟩) (2) (2)]) hF Tryz.sizeOf25 rfl (v := .agg #[.int .i64 (5), .string (bs ([])), .slice (none) (0) (0), .slice (some ⟨b14, 0, none⟩) (2) (2)]) rfl rfl (by simp [one]) rfl (Nat.le_of_ble_eq_true rfl) rfl ?_
 clear hF; intro w hF hE
 replace hX := hX.store hE (by grind)
 replace hY := hY.store hE (by grind)
 clear hE
 replace hF : FR w0 [] [(b14, .cells #[.int .i64 (3), .string (bs ([49])), .slice (none) (0) (0), .slice (none) (0) (0), .int .i64 (5), .string (bs ([])), .slice (none) (0) (0), .slice (some ⟨b9, 0, none⟩) (1) (1)] 25), (b13, .cells #[.int .i64 (5), .string (bs ([])), .slice (none) (0) (0), .slice (some ⟨b14, 0, none⟩) (2) (2)] 25), (b9, .cells #[.int .i64 (3), .string (bs ([50])), .slice (none) (0) (0), .slice (none) (0) (0)] 25), (b8, .cells #[.int .i64 (6), .string (bs ([])), .slice (some ⟨b6, 0, none⟩) (2) (2), .slice (some ⟨b7, 0, none⟩) (2) (2)] 25), (b7, .cells #[.int .i64 (3), .string (bs ([50])), .slice (none) (0) (0), .slice (none) (0) (0), .int .i64 (3), .string (bs ([49])), .slice (none) (0) (0), .slice (none) (0) (0)] 25), (b6, .cells #[.string (bs ([98])), .string (bs ([97]))] 9), (b5, .cells #[.int .i64 (6), .string (bs ([])), .slice (some ⟨b3, 0, none⟩) (2) (2), .slice (some ⟨b4, 0, none⟩) (2) (2)] 25), (b4, .cells #[.int .i64 (3), .string (bs ([49])), .slice (none) (0) (0), .slice (none) (0) (0), .int .i64 (3), .string (bs ([50])), .slice (none) (0) (0), .slice (none) (0) (0)] 25), (b3, .cells #[.string (bs ([97])), .string (bs ([98]))] 9), (b2, .cells #[.int .i64 (3), .string (bs ([50])), .slice (none) (0) (0), .slice (none) (0) (0)] 25), (b1, .cells #[.int .i64 (3), .string (bs ([49])), .slice (none) (0) (0), .slice (none) (0) (0)] 25)] w := hF
 refine d_nil ?_
 have hZi : RX w0 [] w [treeD (.node 5 [] [] [n2T])] [.int .i64 5, .string (bs []), .slice none 0 0, .slice (some ⟨b9, 0, none⟩) (1) (1)] := RX.tree ⟨by omega, by omega⟩ (by simp) RX.nils (hF.rowX 2 rfl (RX.num _ (by simp)) (by simp) rfl (by omega))
 have hZ : RX w0 [] w [treeD zT] [.int .i64 (5), .string (bs ([])), .slice (none) (0) (0), .slice (some ⟨b14, 0, none⟩) (2) (2)] := RX.tree ⟨by omega, by omega⟩ (by simp) RX.nils (hF.rowX 0 rfl (RX.append (ds := [_]) (RX.num _ (by simp)) hZi) (by simp) rfl (by omega))
 exact e_inv ⟨(b13), ([.int .i64 (5), .string (bs ([])), .slice (none) (0) (0), .slice (some ⟨b14, 0, none⟩) (2) (2)]), (rfl), (by simp [one]), (hZ), (hX.sub (by simp)), (hY.sub (by simp)), ⟨rfl, rfl, rfl, rfl, rfl, trivial⟩, (((((((((((hF.front 10 rfl).front 10 rfl).front 10 rfl).front 10 rfl).front 10 rfl).front 10 rfl).front 10 rfl).front 10 rfl).front 9 rfl).erase 9).erase 9)⟩
 refine f_new rfl (v := fun b => .pointer (some ⟨b, 0, none⟩)) (o := .cells #[.int .i64 (0), .string (bs ([])), .slice (none) (0) (0), .slice (none) (0) (0)] 25) hF (x_alloc Tryz.zeroValue25) ?_
 clear hF; intro b15 w hb15 hF hE
 replace hX := hX.alloc hE hb15
 replace hY := hY.alloc hE hb15
 clear hE
 refine ⟨hF.sub (.cons _ (.cons _ (.cons_cons _ (.cons_cons _ (.cons_cons _ (.cons_cons _ (.cons_cons _ (.cons_cons _ (.cons_cons _ (.cons_cons _ .slnil)))))))))), ?_⟩
 refine f_call rfl (row_c (some ⟨b9, 0, none⟩) 1 1 _) (x_call1 en_43 rfl rfl) ?_
 rintro _ w ⟨rfl, hE⟩
 replace hF := hF.ext hE
 replace hX := hX.ext hE
 replace hY := hY.ext hE
 clear hE
 refine ⟨hF.sub (.cons _ (.cons _ (.cons_cons _ (.cons_cons _ (.cons_cons _ (.cons_cons _ (.cons_cons _ (.cons_cons _ (.cons_cons _ (.cons_cons _ .slnil)))))))))), ?_⟩
 refine f_new rfl (v := fun b => .slice (some ⟨b, 0, none⟩) 2 2) hF (x_buildSlice (cs := #[.int .i64 (3), .string (bs ([49])), .slice (none) (0) (0), .slice (none) (0) (0), .int .i64 (5), .string (bs ([])), .slice (none) (0) (0), .slice (some ⟨b9, 0, none⟩) (1) (1)]) Tryz.underlying23 Tryz.sizeOf25 Tryz.zeroValue25 (by decide) (by decide) (by kernel_rfl)) ?_
 clear hF; intro b16 w hb16 hF hE
 replace hX := hX.alloc hE hb16
 replace hY := hY.alloc hE hb16
 clear hE
 refine ⟨hF.sub (.cons _ (.cons _ (.cons _ (.cons_cons _ (.cons_cons _ (.cons_cons _ (.cons_cons _ (.cons_cons _ (.cons_cons _ (.cons_cons _ (.cons_cons _ .slnil))))))))))), ?_⟩
 refine f_call rfl (row_c (some ⟨b16, 0, none⟩) 2 2 _) (x_call1 en_43 rfl rfl) ?_
 rintro _ w ⟨rfl, hE⟩
 replace hF := hF.ext hE
 replace hX := hX.ext hE
 replace hY := hY.ext hE
 clear hE
 refine ⟨hF.sub (.cons _ (.cons _ (.cons _ (.cons_cons _ (.cons_cons _ (.cons_cons _ (.cons_cons _ (.cons_cons _ (.cons_cons _ (.cons_cons _ (.cons_cons _ .slnil))))))))))), ?_⟩
 refine f_storez rfl 1 (l := [.int .i64 (5), .string (bs ([])), .slice (none) (0) (0), .slice (some ⟨b16, 0, none⟩) (2) (2)]) (cs' := #[.int .i64 (5), .string (bs ([])), .slice (none) (0) (0), .slice (some ⟨b16, 0, none⟩) (2) (2)]) hF Tryz.sizeOf25 rfl (v := .agg #[.int .i64 (5), .string (bs ([])), .slice (none) (0) (0), .slice (some ⟨b16, 0, none⟩) (2) (2)]) rfl rfl (by simp [one]) rfl (Nat.le_of_ble_eq_true rfl) rfl ?_
 clear hF; intro w hF hE
 replace hX := hX.store hE (by grind)
 replace hY := hY.store hE (by grind)
 clear hE
 replace hF : FR w0 [] [(b16, .cells #[.int .i64 (3), .string (bs ([49])), .slice (none) (0) (0), .slice (none) (0) (0), .int .i64 (5), .string (bs ([])), .slice (none) (0) (0), .slice (some ⟨b9, 0, none⟩) (1) (1)] 25), (b15, .cells #[.int .i64 (5), .string (bs ([])), .slice (none) (0) (0), .slice (some ⟨b16, 0, none⟩) (2) (2)] 25), (b9, .cells #[.int .i64 (3), .string (bs ([50])), .slice (none) (0) (0), .slice (none) (0) (0)] 25), (b8, .cells #[.int .i64 (6), .string (bs ([])), .slice (some ⟨b6, 0, none⟩) (2) (2), .slice (some ⟨b7, 0, none⟩) (2) (2)] 25), (b7, .cells #[.int .i64 (3), .string (bs ([50])), .slice (none) (0) (0), .slice (none) (0) (0), .int .i64 (3), .string (bs ([49])), .slice (none) (0) (0), .slice (none) (0) (0)] 25), (b6, .cells #[.string (bs ([98])), .string (bs ([97]))] 9), (b5, .cells #[.int .i64 (6), .string (bs ([])), .slice (some ⟨b3, 0, none⟩) (2) (2), .slice (some ⟨b4, 0, none⟩) (2) (2)] 25), (b4, .cells #[.int .i64 (3), .string (bs ([49])), .slice (none) (0) (0), .slice (none) (0) (0), .int .i64 (3), .string (bs ([50])), .slice (none) (0) (0), .slice (none) (0) (0)] 25), (b3, .cells #[.string (bs ([97])), .string (bs ([98]))] 9), (b2, .cells #[.int .i64 (3), .string (bs ([50])), .slice (none) (0) (0), .slice (none) (0) (0)] 25), (b1, .cells #[.int .i64 (3), .string (bs ([49])), .slice (none) (0) (0), .slice (none) (0) (0)] 25)] w := hF
 refine d_nil ?_
 have hZi : RX w0 [] w [treeD (.node 5 [] [] [n2T])] [.int .i64 5, .string (bs []), .slice none 0 0, .slice (some ⟨b9, 0, none⟩) (1) (1)] := RX.tree ⟨by omega, by omega⟩ (by simp) RX.nils (hF.rowX 2 rfl (RX.num _ (by simp)) (by simp) rfl (by omega))
 have hZ : RX w0 [] w [treeD zT] [.int .i64 (5), .string (bs ([])), .slice (none) (0) (0), .slice (some ⟨b16, 0, none⟩) (2) (2)] := RX.tree ⟨by omega, by omega⟩ (by simp) RX.nils (hF.rowX 0 rfl (RX.append (ds := [_]) (RX.num _ (by simp)) hZi) (by simp) rfl (by omega))
 exact e_inv ⟨(b15), ([.int .i64 (5), .string (bs ([])), .slice (none) (0) (0), .slice (some ⟨b16, 0, none⟩) (2) (2)]), (rfl), (by simp [one]), (hZ), (hX.sub (by simp)), (hY.sub (by simp)), ⟨rfl, rfl, rfl, rfl, rfl, trivial⟩, (((((((((((hF.front 10 rfl).front 10 rfl).front 10 rfl).front 10 rfl).front 10 rfl).front 10 rfl).front 10 rfl).front 10 rfl).front 9 rfl).erase 9).erase 9)⟩
 refine f_new rfl (v := fun b => .pointer (some ⟨b, 0, none⟩)) (o := .cells #[.int .i64 (0), .string (bs ([])), .slice (none) (0) (0), .slice (none) (0) (0)] 25) hF (x_alloc Tryz.zeroValue25) ?_
 clear hF; intro b17 w hb17 hF hE
 replace hX := hX.alloc hE hb17
 replace hY := hY.alloc hE hb17
 clear hE
 refine ⟨hF.sub (.cons _ (.cons_cons _ (.cons_cons _ (.cons_cons _ (.cons_cons _ (.cons_cons _ (.cons_cons _ (.cons_cons _ (.cons_cons _ .slnil))))))))), ?_⟩
 refine f_new rfl (v := fun b => .slice (some ⟨b, 0, none⟩) 1 1) hF (x_buildSlice (cs := #[.int .i64 (3), .string (bs ([50])), .slice (none) (0) (0), .slice (none) (0) (0)]) Tryz.underlying23 Tryz.sizeOf25 Tryz.zeroValue25 (by decide) (by decide) (by kernel_rfl)) ?_
 clear hF; intro b18 w hb18 hF hE
 replace hX := hX.alloc hE hb18
 replace hY := hY.alloc hE hb18
 clear hE
 refine ⟨hF.sub (.cons _ (.cons _ (.cons_cons _ (.cons_cons _ (.cons_cons _ (.cons_cons _ (.cons_cons _ (.cons_cons _ (.cons_cons _ (.cons_cons _ .slnil)))))))))), ?_⟩
 refine f_call rfl (row_c (some ⟨b18, 0, none⟩) 1 1 _) (x_call1 en_43 rfl rfl) ?_
 rintro _ w ⟨rfl, hE⟩
 replace hF := hF.ext hE
 replace hX := hX.ext hE
 replace hY := hY.ext hE
 clear hE
 refine ⟨hF.sub (.cons _ (.cons _ (.cons_cons _ (.cons_cons _ (.cons_cons _ (.cons_cons _ (.cons_cons _ (.cons_cons _ (.cons_cons _ (.cons_cons _ .slnil)))))))))), ?_⟩
 refine f_new rfl (v := fun b => .slice (some ⟨b, 0, none⟩) 2 2) hF (x_buildSlice (cs := #[.int .i64 (3), .string (bs ([49])), .slice (none) (0) (0), .slice (none) (0) (0), .int .i64 (5), .string (bs ([])), .slice (none) (0) (0), .slice (some ⟨b18, 0, none⟩) (1) (1)]) Tryz.underlying23 Tryz.sizeOf25 Tryz.zeroValue25 (by decide) (by decide) (by kernel_rfl)) ?_
 clear hF; intro b19 w hb19 hF hE
 replace hX := hX.alloc hE hb19
 replace hY := hY.alloc hE hb19
 clear hE
 refine ⟨hF.sub (.cons _ (.cons _ (.cons _ (.cons_cons _ (.cons_cons _ (.cons_cons _ (.cons_cons _ (.cons_cons _ (.cons_cons _ (.cons_cons _ (.cons_cons _ .slnil))))))))))), ?_⟩
 refine f_call rfl (row_c (some ⟨b19, 0, none⟩) 2 2 _) (x_call1 en_43 rfl rfl) ?_
 rintro _ w ⟨rfl, hE⟩
 replace hF := hF.ext hE
 replace hX := hX.ext hE
 replace hY := hY.ext hE
 clear hE
 refine ⟨hF.sub (.cons _ (.cons _ (.cons _ (.cons_cons _ (.cons_cons _ (.cons_cons _ (.cons_cons _ (.cons_cons _ (.cons_cons _ (.cons_cons _ (.cons_cons _ .slnil))))))))))), ?_⟩
 refine f_storez rfl 2 (l := [.int .i64 (5), .string (bs ([])), .slice (none) (0) (0), .slice (some ⟨b19, 0, none⟩) (2) (2)]) (cs' := #[.int .i64 (5), .string (bs ([])), .slice (none) (0) (0), .slice (some ⟨b19, 0, none⟩) (2) (2)]) hF Tryz.sizeOf25 rfl (v := .agg #[.int .i64 (5), .string (bs ([])), .slice (none) (0) (0), .slice (some ⟨b19, 0, none⟩) (2) (2)]) rfl rfl (by simp [one]) rfl (Nat.le_of_ble_eq_true rfl) rfl ?_
 clear hF; intro w hF hE
 replace hX := hX.store hE (by grind)
 replace hY := hY.store hE (by grind)
 clear hE
 replace hF : FR w0 [] [(b19, .cells #[.int .i64 (3), .string (bs ([49])), .slice (none) (0) (0), .slice (none) (0) (0), .int .i64 (5), .string (bs ([])), .slice (none) (0) (0), .slice (some ⟨b18, 0, none⟩) (1) (1)] 25), (b18, .cells #[.int .i64 (3), .string (bs ([50])), .slice (none) (0) (0), .slice (none) (0) (0)] 25), (b17, .cells #[.int .i64 (5), .string (bs ([])), .slice (none) (0) (0), .slice (some ⟨b19, 0, none⟩) (2) (2)] 25), (b8, .cells #[.int .i64 (6), .string (bs ([])), .slice (some ⟨b6, 0, none⟩) (2) (2), .slice (some ⟨b7, 0, none⟩) (2) (2)] 25), (b7, .cells #[.int .i64 (3), .string (bs ([50])), .slice (none) (0) (0), .slice (none) (0) (0), .int .i64 (3), .string (bs ([49])), .slice (none) (0) (0), .slice (none) (0) (0)] 25), (b6, .cells #[.string (bs ([98])), .string (bs ([97]))] 9), (b5, .cells #[.int .i64 (6), .string (bs ([])), .slice (some ⟨b3, 0, none⟩) (2) (2), .slice (some ⟨b4, 0, none⟩) (2) (2)] 25), (b4, .cells #[.int .i64 (3), .string (bs ([49])), .slice (none) (0) (0), .slice (none) (0) (0), .int .i64 (3), .string (bs ([50])), .slice (none) (0) (0), .slice (none) (0) (0)] 25), (b3, .cells #[.string (bs ([97])), .string (bs ([98]))] 9), (b2, .cells #[.int .i64 (3), .string (bs ([50])), .slice (none) (0) (0), .slice (none) (0) (0)] 25), (b1, .cells #[.int .i64 (3), .string (bs ([49])), .slice (none) (0) (0), .slice (none) (0) (0)] 25)] w := hF
 refine d_nil ?_
 have hZi : RX w0 [] w [treeD (.node 5 [] [] [n2T])] [.int .i64 5, .string (bs []), .slice none 0 0, .slice (some ⟨b18, 0, none⟩) (1) (1)] := RX.tree ⟨by omega, by omega⟩ (by simp) RX.nils (hF.rowX 1 rfl (RX.num _ (by simp)) (by simp) rfl (by omega))
 have hZ : RX w0 [] w [treeD zT] [.int .i64 (5), .string (bs ([])), .slice (none) (0) (0), .slice (some ⟨b19, 0, none⟩) (2) (2)] := RX.tree ⟨by omega, by omega⟩ (by simp) RX.nils (hF.rowX 0 rfl (RX.append (ds := [_]) (RX.num _ (by simp)) hZi) (by simp) rfl (by omega))
 exact e_inv ⟨(b17), ([.int .i64 (5), .string (bs ([])), .slice (none) (0) (0), .slice (some ⟨b19, 0, none⟩) (2) (2)]), (rfl), (by simp [one]), (hZ), (hX.sub (by simp)), (hY.sub (by simp)), ⟨rfl, rfl, rfl, rfl, rfl, trivial⟩, (((((((((((hF.front 10 rfl).front 10 rfl).front 10 rfl).front 10 rfl).front 10 rfl).front 10 rfl).front 10 rfl).front 10 rfl).front 10 rfl).erase 9).erase 9)⟩
 clear hF; rintro σ w ⟨bz, cz, hlz, hoz, hZ, hX, hY, hs, hF⟩
 refine Eg.slots hs ?_
 clear hs; intro σ
 refine e_seq (c_seq (c_region (o_val (v := .agg #[.int .i64 (6), .string (bs ([])), .slice (some ⟨b3, 0, none⟩) (2) (2), .slice (some ⟨b4, 0, none⟩) (2) (2)]) (x_loadS (l := [.int .i64 (6), .string (bs ([])), .slice (some ⟨b3, 0, none⟩) (2) (2), .slice (some ⟨b4, 0, none⟩) (2) (2)]) Tryz.isAgg25 Tryz.sizeOf25 rfl rfl (hF.cellsAll 4 rfl)) ?_)))
 refine o_call (getV_c 6 [] [[97], [98]] [n1T, n2T] [98] (by decide) _ _ [.int .i64 6, .string (bs []), .slice (some ⟨b3, 0, none⟩) 2 2, .slice (some ⟨b4, 0, none⟩) 2 2] hX.rep okX (hG.ext hF.same)) (x_call2 en_28 rfl rfl rfl) ?_
 rintro _ w ⟨ct, rfl, hRt, hE⟩
 have hg : getV (.node 6 [] [[97], [98]] [n1T, n2T]) [98] = (n2T, true) := by kernel_rfl
 rw [hg] at hRt ⊢
 obtain ⟨A7, c7, B7, e7, rfl, -, -, -, -⟩ := hRt.tree_inv
 clear hRt hg
 replace hF := hF.ext hE
 replace hX := hX.ext hE
 replace hY := hY.ext hE
 replace hZ := hZ.ext hE
 clear hE
 refine o_val (v := .tuple #[.agg #[.int .i64 (3), .string (bs ([50])), .slice (A7) (0) (c7), .slice (B7) (0) (e7)], .bool true]) (x_move rfl) (o_val (v := .agg #[.int .i64 (3), .string (bs ([50])), .slice (A7) (0) (c7), .slice (B7) (0) (e7)]) (x_extract rfl rfl) (o_val (v := .bool true) (x_extract rfl rfl) ?_))
 refine o_lay (l := [.int .i64 (3), .string (bs ([50])), .slice (A7) (0) (c7), .slice (B7) (0) (e7)]) hF Tryz.zeroValue25 Tryz.sizeOf25 rfl (v := .agg #[.int .i64 (3), .string (bs ([50])), .slice (A7) (0) (c7), .slice (B7) (0) (e7)]) rfl rfl (by simp [one]) rfl ?_
 clear hF; intro b20 w hb20 hF hE
 replace hX := hX.alloc hE hb20
 replace hY := hY.alloc hE hb20
 replace hZ := hZ.alloc hE hb20
 clear hE
 refine o_val (v := .bool true) (x_assign rfl) (o_nil (e_seq (c_seq ?_)))
 refine c_drawF [] (.free 0 (.act 1 (.free 2 (.free 3 (.free 4 (.act 5 (.free 6 (.free 7 (.free 8 (.free 11 (.free 12 (.alt 9 (.alt 10 (.act 13 (.act 14 (.act 15 (.free 16 (.free 17 (.free 18 (.act 19 (.act 20 (.act 21 (.free 22 (.free 23 (.free 24 (.free 25 (.act 26 (.free 27 (.free 28 (.free 29 (.free 30 (.act 31 (.free 32 (.free 33 (.free 34 (.free 35 (.free 36 (.free 37 (.free 38 (.free 39 (.free 40 (.free 41 (.free 42 (.free 43 (.free 45 (.act 44 (.act 46 (.free 47 (.free 48 (.act 49 (.free 50 (.free 51 (.free 52 (.free 53 .nil))))))))))))))))))))))))))))))))))))))))) (.act 13 (.act 10 (.act 14 (.act 15 (.free 16 (.free 17 (.free 18 (.act 19 (.act 20 (.act 21 (.free 22 (.free 23 (.free 24 (.free 25 (.act 26 (.free 27 (.free 28 (.free 29 (.free 30 (.act 31 (.free 32 (.free 33 (.free 34 (.free 35 (.free 36 (.free 37 (.free 38 (.free 39 (.free 40 (.free 41 (.free 42 (.free 43 (.free 45 (.act 44 (.act 46 (.free 47 (.free 48 (.act 49 (.free 50 (.free 51 (.free 52 (.free 53 .nil))))))))))))))))))))))))))))))))))))))))))) (.act 13 (.act 9 (.act 10 (.act 14 (.act 15 (.free 16 (.free 17 (.free 18 (.act 19 (.act 20 (.act 21 (.free 22 (.free 23 (.free 24 (.free 25 (.act 26 (.free 27 (.free 28 (.free 29 (.free 30 (.act 31 (.free 32 (.free 33 (.free 34 (.free 35 (.free 36 (.free 37 (.free 38 (.free 39 (.free 40 (.free 41 (.free 42 (.free 43 (.free 45 (.act 44 (.act 46 (.free 47 (.free 48 (.act 49 (.free 50 (.free 51 (.free 52 (.free 53 .nil))))))))))))))))))))))))))))))))))))))))))))))))))))))) (by kernel_rfl) hF (by kernel_rfl) (by kernel_rfl) ?_
 clear hF; intro w hF hE
 replace hX := hX.ext hE
 replace hY := hY.ext hE
 replace hZ := hZ.ext hE
 clear hE
 refine ⟨fun wq => FR w0 [] [(b20, .cells #[.int .i64 (3), .string (bs ([50])), .slice (A7) (0) (c7), .slice (B7) (0) (e7)] 25), (bz, .cells (List.toArray cz) 25), (b8, .cells #[.int .i64 (6), .string (bs ([])), .slice (some ⟨b6, 0, none⟩) (2) (2), .slice (some ⟨b7, 0, none⟩) (2) (2)] 25), (b7, .cells #[.int .i64 (3), .string (bs ([50])), .slice (none) (0) (0), .slice (none) (0) (0), .int .i64 (3), .string (bs ([49])), .slice (none) (0) (0), .slice (none) (0) (0)] 25), (b6, .cells #[.string (bs ([98])), .string (bs ([97]))] 9), (b5, .cells #[.int .i64 (6), .string (bs ([])), .slice (some ⟨b3, 0, none⟩) (2) (2), .slice (some ⟨b4, 0, none⟩) (2) (2)] 25), (b4, .cells #[.int .i64 (3), .string (bs ([49])), .slice (none) (0) (0), .slice (none) (0) (0), .int .i64 (3), .string (bs ([50])), .slice (none) (0) (0), .slice (none) (0) (0)] 25), (b3, .cells #[.string (bs ([97])), .string (bs ([98]))] 9), (b2, .cells #[.int .i64 (3), .string (bs ([50])), .slice (none) (0) (0), .slice (none) (0) (0)] 25), (b1, .cells #[.int .i64 (3), .string (bs ([49])), .slice (none) (0) (0), .slice (none) (0) (0)] 25)] wq, hF, ?_⟩
 refine f_free rfl (v := .agg #[.int .i64 (6), .string (bs ([])), .slice (some ⟨b3, 0, none⟩) (2) (2), .slice (some ⟨b4, 0, none⟩) (2) (2)]) (fun w hC => x_loadS (l := [.int .i64 (6), .string (bs ([])), .slice (some ⟨b3, 0, none⟩) (2) (2), .slice (some ⟨b4, 0, none⟩) (2) (2)]) Tryz.isAgg25 Tryz.sizeOf25 rfl rfl (hC.cellsAll 5 rfl)) ?_
 refine f_call rfl (ret_eq (v' := .bool true) (right_v xT (by decide) _ _ [.int .i64 6, .string (bs []), .slice (some ⟨b3, 0, none⟩) 2 2, .slice (some ⟨b4, 0, none⟩) 2 2] hX.rep okX (hG.ext hF.same)) (by kernel_rfl)) (x_call1 en_31 rfl rfl) ?_
 rintro _ w ⟨rfl, hE⟩
 replace hF := hF.ext hE
 replace hX := hX.ext hE
 replace hY := hY.ext hE
 replace hZ := hZ.ext hE
 clear hE
 refine ⟨hF, ?_⟩
 refine f_free rfl (v := .bool true) (fun w hC => x_move rfl) (f_free rfl (v := .agg #[.int .i64 (6), .string (bs ([])), .slice (some ⟨b3, 0, none⟩) (2) (2), .slice (some ⟨b4, 0, none⟩) (2) (2)]) (fun w hC => x_loadS (l := [.int .i64 (6), .string (bs ([])), .slice (some ⟨b3, 0, none⟩) (2) (2), .slice (some ⟨b4, 0, none⟩) (2) (2)]) Tryz.isAgg25 Tryz.sizeOf25 rfl rfl (hC.cellsAll 5 rfl)) (f_free rfl (v := .agg #[.int .i64 (6), .string (bs ([])), .slice (some ⟨b6, 0, none⟩) (2) (2), .slice (some ⟨b7, 0, none⟩) (2) (2)]) (fun w hC => x_loadS (l := [.int .i64 (6), .string (bs ([])), .slice (some ⟨b6, 0, none⟩) (2) (2), .slice (some ⟨b7, 0, none⟩) (2) (2)]) Tryz.isAgg25 Tryz.sizeOf25 rfl rfl (hC.cellsAll 2 rfl)) ?_))
 refine f_call rfl (ret_eq (v' := .bool true) (sameV_c xT yT (by decide) (by decide) _ _ _ [.int .i64 6, .string (bs []), .slice (some ⟨b3, 0, none⟩) 2 2, .slice (some ⟨b4, 0, none⟩) 2 2] [.int .i64 6, .string (bs []), .slice (some ⟨b6, 0, none⟩) 2 2, .slice (some ⟨b7, 0, none⟩) 2 2] hX.rep hY.rep okX okY (hG.ext hF.same)) (by kernel_rfl)) (x_call2 en_42 rfl rfl rfl) ?_
 rintro _ w ⟨rfl, hE⟩
 replace hF := hF.ext hE
 replace hX := hX.ext hE
 replace hY := hY.ext hE
 replace hZ := hZ.ext hE
 clear hE
 refine ⟨hF, ?_⟩
 refine f_free rfl (v := .bool true) (fun w hC => x_pickt rfl rfl) (f_free rfl (v := .bool true) (fun w hC => x_move rfl) (f_free rfl (v := .agg #[.int .i64 (3), .string (bs ([49])), .slice (none) (0) (0), .slice (none) (0) (0)]) (fun w hC => x_loadS (l := [.int .i64 (3), .string (bs ([49])), .slice (none) (0) (0), .slice (none) (0) (0)]) Tryz.isAgg25 Tryz.sizeOf25 rfl rfl (hC.cellsAll 9 rfl)) (f_free rfl (v := .agg #[.int .i64 (3), .string (bs ([49])), .slice (none) (0) (0), .slice (none) (0) (0)]) (fun w hC => x_loadS (l := [.int .i64 (3), .string (bs ([49])), .slice (none) (0) (0), .slice (none) (0) (0)]) Tryz.isAgg25 Tryz.sizeOf25 rfl rfl (hC.cellsAll 9 rfl)) (f_free rfl (v := .agg #[.int .i64 (3), .string (bs ([50])), .slice (none) (0) (0), .slice (none) (0) (0)]) (fun w hC => x_loadS (l := [.int .i64 (3), .string (bs ([50])), .slice (none) (0) (0), .slice (none) (0) (0)]) Tryz.isAgg25 Tryz.sizeOf25 rfl rfl (hC.cellsAll 8 rfl)) ?_))))
 refine d_alt ?_ ?_
 refine f_new rfl (v := fun b => .slice (some ⟨b, 0, none⟩) 1 1) hF (x_buildSlice (cs := #[.int .i64 (3), .string (bs ([49])), .slice (none) (0) (0), .slice (none) (0) (0)]) Tryz.underlying23 Tryz.sizeOf25 Tryz.zeroValue25 (by decide) (by decide) (by kernel_rfl)) ?_
 clear hF; intro b21 w hb21 hF hE
 replace hX := hX.alloc hE hb21
 replace hY := hY.alloc hE hb21
 replace hZ := hZ.alloc hE hb21
 clear hE
 refine ⟨hF.sub (.cons _ (.cons_cons _ (.cons_cons _ (.cons_cons _ (.cons_cons _ (.cons_cons _ (.cons_cons _ (.cons_cons _ (.cons_cons _ (.cons_cons _ (.cons_cons _ .slnil))))))))))), ?_⟩
 refine d_alt ?_ ?_
 refine f_call rfl (row_c (some ⟨b21, 0, none⟩) 1 1 _) (x_call1 en_43 rfl rfl) ?_
 rintro _ w ⟨rfl, hE⟩
 replace hF := hF.ext hE
 replace hX := hX.ext hE
 replace hY := hY.ext hE
 replace hZ := hZ.ext hE
 clear hE
 refine ⟨hF.sub (.cons _ (.cons_cons _ (.cons_cons _ (.cons_cons _ (.cons_cons _ (.cons_cons _ (.cons_cons _ (.cons_cons _ (.cons_cons _ (.cons_cons _ (.cons_cons _ .slnil))))))))))), ?_⟩
 refine f_new rfl (v := fun b => .slice (some ⟨b, 0, none⟩) 2 2) hF (x_buildSlice (cs := #[.int .i64 (3), .string (bs ([49])), .slice (none) (0) (0), .slice (none) (0) (0), .int .i64 (3), .string (bs ([50])), .slice (none) (0) (0), .slice (none) (0) (0)]) Tryz.underlying23 Tryz.sizeOf25 Tryz.zeroValue25 (by decide) (by decide) (by kernel_rfl)) ?_
 clear hF; intro b22 w hb22 hF hE
 replace hX := hX.alloc hE hb22
 replace hY := hY.alloc hE hb22
 replace hZ := hZ.alloc hE hb22
 clear hE
 refine ⟨hF.sub (.cons _ (.cons _ (.cons_cons _ (.cons_cons _ (.cons_cons _ (.cons_cons _ (.cons_cons _ (.cons_cons _ (.cons_cons _ (.cons_cons _ (.cons_cons _ (.cons_cons _ .slnil)))))))))))), ?_⟩
 refine f_call rfl (row_c (some ⟨b22, 0, none⟩) 2 2 _) (x_call1 en_43 rfl rfl) ?_
 rintro _ w ⟨rfl, hE⟩
 replace hF := hF.ext hE
 replace hX := hX.ext hE
 replace hY := hY.ext hE
 replace hZ := hZ.ext hE
 clear hE
 refine ⟨hF.sub (.cons _ (.cons _ (.cons_cons _ (.cons_cons _ (.cons_cons _ (.cons_cons _ (.cons_cons _ (.cons_cons _ (.cons_cons _ (.cons_cons _ (.cons_cons _ (.cons_cons _ .slnil)))))))))))), ?_⟩
 have hR1 : RX w0 [] w [treeD (.node 5 [] [] [n1T])] [.int .i64 (5), .string (bs ([])), .slice (none) (0) (0), .slice (some ⟨b21, 0, none⟩) (1) (1)] := RX.tree ⟨by omega, by omega⟩ (by simp) RX.nils (hF.rowX 1 rfl (RX.num _ (by simp)) (by simp) rfl (by omega))
 have hR2 : RX w0 [] w [treeD (.node 5 [] [] [n1T, n2T])] [.int .i64 (5), .string (bs ([])), .slice (none) (0) (0), .slice (some ⟨b22, 0, none⟩) (2) (2)] := RX.tree ⟨by omega, by omega⟩ (by simp) RX.nils (hF.rowX 0 rfl (RX.append (ds := [_]) (RX.num _ (by simp)) (RX.num _ (by simp))) (by simp) rfl (by omega))
 refine f_call rfl (ret_eq (v' := .int .i64 (-1)) (compareV_c (.node 5 [] [] [n1T]) (.node 5 [] [] [n1T, n2T]) (by decide) (by decide) _ _ _ _ _ hR1.rep hR2.rep (by simp [okT, okTs]) (by simp [okT, okTs]) (hG.ext hF.same)) (by kernel_rfl)) (x_call2 en_41 rfl rfl rfl) ?_
 rintro _ w ⟨rfl, hE⟩
 replace hF := hF.ext hE
 replace hX := hX.ext hE
 replace hY := hY.ext hE
 replace hZ := hZ.ext hE
 clear hE
 refine ⟨hF.sub (.cons _ (.cons _ (.cons_cons _ (.cons_cons _ (.cons_cons _ (.cons_cons _ (.cons_cons _ (.cons_cons _ (.cons_cons _ (.cons_cons _ (.cons_cons _ (.cons_cons _ .slnil)))))))))))), ?_⟩
 refine f_free rfl (v := .bool true) (fun w hC => run_true (x_eql rfl rfl) (by decide)) (f_free rfl (v := .bool true) (fun w hC => x_pickt rfl rfl) (f_free rfl (v := .bool true) (fun w hC => x_move rfl) ?_))
 refine f_call rfl (ret_eq (v' := .agg #[.int .i64 (3), .string (bs ([57])), .slice (none) (0) (0), .slice (none) (0) (0)]) (num_c 9 (by omega) (by omega) _ (hG.ext hF.same)) (by kernel_rfl)) (x_call1 en_39 rfl rfl) ?_
 rintro _ w ⟨rfl, hE⟩
 replace hF := hF.ext hE
 replace hX := hX.ext hE
 replace hY := hY.ext hE
 replace hZ := hZ.ext hE
 clear hE
 refine ⟨hF.sub (.cons _ (.cons _ (.cons_cons _ (.cons_cons _ (.cons_cons _ (.cons_cons _ (.cons_cons _ (.cons_cons _ (.cons_cons _ (.cons_cons _ (.cons_cons _ (.cons_cons _ .slnil)))))))))))), ?_⟩
 refine f_call rfl (ret_eq (v' := .agg #[.int .i64 (3), .string (bs ([49, 101, 49])), .slice (none) (0) (0), .slice (none) (0) (0)]) (num_c 10 (by omega) (by omega) _ (hG.ext hF.same)) (by kernel_rfl)) (x_call1 en_39 rfl rfl) ?_
 rintro _ w ⟨rfl, hE⟩
 replace hF := hF.ext hE
 replace hX := hX.ext hE
 replace hY := hY.ext hE
 replace hZ := hZ.ext hE
 clear hE
 refine ⟨hF.sub (.cons _ (.cons _ (.cons_cons _ (.cons_cons _ (.cons_cons _ (.cons_cons _ (.cons_cons _ (.cons_cons _ (.cons_cons _ (.cons_cons _ (.cons_cons _ (.cons_cons _ .slnil)))))))))))), ?_⟩
 refine f_call rfl (ret_eq (v' := .int .i64 (-1)) (compareV_c (.node 3 [57] [] []) (.node 3 [49, 101, 49] [] []) (by decide) (by decide) _ _ _ _ _ (RX.num (w0 := w0) (w := w) (ids := []) [57] (by simp)).rep (RX.num (w0 := w0) (w := w) (ids := []) [49, 101, 49] (by simp)).rep (by simp [okT, okTs]) (by simp [okT, okTs]) (hG.ext hF.same)) (by kernel_rfl)) (x_call2 en_41 rfl rfl rfl) ?_
 rintro _ w ⟨rfl, hE⟩
 replace hF := hF.ext hE
 replace hX := hX.ext hE
 replace hY := hY.ext hE
 replace hZ := hZ.ext hE
 clear hE
 refine ⟨hF.sub (.cons _ (.cons _ (.cons_cons _ (.cons_cons _ (.cons_cons _ (.cons_cons _ (.cons_cons _ (.cons_cons _ (.cons_cons _ (.cons_cons _ (.cons_cons _ (.cons_cons _ .slnil)))))))))))), ?_⟩
 refine f_free rfl (v := .bool true) (fun w hC => run_true (x_eql rfl rfl) (by decide)) (f_free rfl (v := .bool true) (fun w hC => x_pickt rfl rfl) (f_free rfl (v := .bool true) (fun w hC => x_move rfl) (f_free rfl (v := .agg (List.toArray cz)) (fun w hC => x_loadS (l := cz) Tryz.isAgg25 Tryz.sizeOf25 rfl hlz (hC.cellsAll 1 rfl)) ?_)))
 refine f_call rfl (ret_eq (v' := .int .i64 (4)) (size_v zT (by decide) _ _ cz hZ.rep) (by kernel_rfl)) (x_call1 en_24 rfl rfl) ?_
 rintro _ w ⟨rfl, hE⟩
 replace hF := hF.ext hE
 replace hX := hX.ext hE
 replace hY := hY.ext hE
 replace hZ := hZ.ext hE
 clear hE
 refine ⟨hF.sub (.cons _ (.cons _ (.cons_cons _ (.cons_cons _ (.cons_cons _ (.cons_cons _ (.cons_cons _ (.cons_cons _ (.cons_cons _ (.cons_cons _ (.cons_cons _ (.cons_cons _ .slnil)))))))))))), ?_⟩
 refine f_free rfl (v := .bool true) (fun w hC => run_true (x_eql rfl rfl) (by decide)) (f_free rfl (v := .bool true) (fun w hC => x_pickt rfl rfl) (f_free rfl (v := .bool true) (fun w hC => x_move rfl) (f_free rfl (v := .agg (List.toArray cz)) (fun w hC => x_loadS (l := cz) Tryz.isAgg25 Tryz.sizeOf25 rfl hlz (hC.cellsAll 1 rfl)) ?_)))
 refine f_call rfl (ret_eq (v' := .int .i64 (3)) (depth_c zT (by decide) _ _ cz hZ.rep) (by kernel_rfl)) (x_call1 en_36 rfl rfl) ?_
 rintro _ w ⟨rfl, hE⟩
 replace hF := hF.ext hE
 replace hX := hX.ext hE
 replace hY := hY.ext hE
 replace hZ := hZ.ext hE
 clear hE
 refine ⟨hF.sub (.cons _ (.cons _ (.cons_cons _ (.cons_cons _ (.cons_cons _ (.cons_cons _ (.cons_cons _ (.cons_cons _ (.cons_cons _ (.cons_cons _ (.cons_cons _ (.cons_cons _ .slnil)))))))))))), ?_⟩
 refine f_free rfl (v := .bool true) (fun w hC => run_true (x_eql rfl rfl) (by decide)) (f_free rfl (v := .bool true) (fun w hC => x_pickt rfl rfl) (f_free rfl (v := .bool true) (fun w hC => x_move rfl) (f_free rfl (v := .bool true) (fun w hC => x_move rfl) (f_free rfl (v := .bool true) (fun w hC => x_pickt rfl rfl) (f_free rfl (v := .bool true) (fun w hC => x_move rfl) (f_free rfl (v := .pointer (some ⟨b20, 1, none⟩)) (fun w hC => x_fieldAddrO fa_25_1 rfl) (f_free rfl (v := .string (bs ([50]))) (fun w hC => x_load Tryz.isAgg9 rfl (hC.cell 0 rfl rfl)) (f_free rfl (v := .bool true) (fun w hC => run_true (x_eqls rfl rfl) (by decide)) (f_free rfl (v := .bool true) (fun w hC => x_pickt rfl rfl) (f_free rfl (v := .bool true) (fun w hC => x_move rfl) (f_free rfl (v := .agg #[.int .i64 (6), .string (bs ([])), .slice (some ⟨b6, 0, none⟩) (2) (2), .slice (some ⟨b7, 0, none⟩) (2) (2)]) (fun w hC => x_loadS (l := [.int .i64 (6), .string (bs ([])), .slice (some ⟨b6, 0, none⟩) (2) (2), .slice (some ⟨b7, 0, none⟩) (2) (2)]) Tryz.isAgg25 Tryz.sizeOf25 rfl rfl (hC.cellsAll 2 rfl)) (f_free rfl (v := .agg #[.int .i64 (6), .string (bs ([])), .slice (some ⟨b3, 0, none⟩) (2) (2), .slice (some ⟨b4, 0, none⟩) (2) (2)]) (fun w hC => x_loadS (l := [.int .i64 (6), .string (bs ([])), .slice (some ⟨b3, 0, none⟩) (2) (2), .slice (some ⟨b4, 0, none⟩) (2) (2)]) Tryz.isAgg25 Tryz.sizeOf25 rfl rfl (hC.cellsAll 5 rfl)) ?_))))))))))))
 refine f_call rfl (sortedV_c yT (by decide) _ _ [.int .i64 6, .string (bs []), .slice (some ⟨b6, 0, none⟩) 2 2, .slice (some ⟨b7, 0, none⟩) 2 2] hY.rep okY (hG.ext hF.same)) (x_call1 en_26 rfl rfl) ?_
 rintro _ w ⟨cq, rfl, hRq, hE⟩
 rw [sorted_yT] at hRq
 have hlq : cq.length = 4 := hRq.length.trans (size_treeD _)
 have hoq := hRq.one_
 replace hX := hX.ext hE
 replace hF := hF.ext hE
 clear hE
 refine ⟨hF.sub (.cons _ (.cons _ (.cons_cons _ (.cons_cons _ (.cons_cons _ (.cons_cons _ (.cons_cons _ (.cons_cons _ (.cons_cons _ (.cons_cons _ (.cons_cons _ (.cons_cons _ .slnil)))))))))))), ?_⟩
 refine f_call rfl (ret_eq (v' := .bool true) (equal_c xT xT _ _ _ cq [.int .i64 6, .string (bs []), .slice (some ⟨b3, 0, none⟩) 2 2, .slice (some ⟨b4, 0, none⟩) 2 2] hRq hX.rep) (congrArg Value.bool (eqT_self _))) (x_call2 en_22 rfl rfl rfl) ?_
 rintro _ w ⟨rfl, hE⟩
 replace hF := hF.ext hE
 clear hE
 refine ⟨hF.sub (.cons _ (.cons _ (.cons_cons _ (.cons_cons _ (.cons_cons _ (.cons_cons _ (.cons_cons _ (.cons_cons _ (.cons_cons _ (.cons_cons _ (.cons_cons _ (.cons_cons _ .slnil)))))))))))), ?_⟩
 refine f_free rfl (v := .bool true) (fun w hC => x_pickt rfl rfl) (f_free rfl (v := .bool true) (fun w hC => x_move rfl) ?_)
 refine f_call rfl (of_c [97] _) (x_call1 en_25 rfl rfl) ?_
 rintro _ w ⟨rfl, hE⟩
 replace hF := hF.ext hE
 clear hE
 refine ⟨hF.sub (.cons _ (.cons _ (.cons_cons _ (.cons_cons _ (.cons_cons _ (.cons_cons _ (.cons_cons _ (.cons_cons _ (.cons_cons _ (.cons_cons _ (.cons_cons _ (.cons_cons _ .slnil)))))))))))), ?_⟩
 refine f_free rfl (v := .int .i64 (4)) (fun w hC => by kernel_rfl) ?_
 refine f_free rfl (v := .bool true) (fun w hC => run_true (x_eql rfl rfl) (by decide)) (f_free rfl (v := .bool true) (fun w hC => x_pickt rfl rfl) (f_free rfl (v := .bool true) (fun w hC => x_assign rfl) (d_nil (e_seq ?_))))
 refine c_ret (e_ret (post_ret (res_1 (v := .bool true) rfl rfl) ?_))
 exact ⟨rfl, hF.same⟩
 refine f_new rfl (v := fun b => .slice (some ⟨b, 0, none⟩) 2 2) hF (x_buildSlice (cs := #[.int .i64 (3), .string (bs ([49])), .slice (none) (0) (0), .slice (none) (0) (0), .int .i64 (3), .string (bs ([50])), .slice (none) (0) (0), .slice (none) (0) (0)]) Tryz.underlying23 Tryz.sizeOf25 Tryz.zeroValue25 (by decide) (by decide) (by kernel_rfl)) ?_
 clear hF; intro b23 w hb23 hF hE
 replace hX := hX.alloc hE hb23
 replace hY := hY.alloc hE hb23
 replace hZ := hZ.alloc hE hb23
 clear hE
 refine ⟨hF.sub (.cons _ (.cons _ (.cons_cons _ (.cons_cons _ (.cons_cons _ (.cons_cons _ (.cons_cons _ (.cons_cons _ (.cons_cons _ (.cons_cons _ (.cons_cons _ (.cons_cons _ .slnil)))))))))))), ?_⟩
 refine f_call rfl (row_c (some ⟨b21, 0, none⟩) 1 1 _) (x_call1 en_43 rfl rfl) ?_
 rintro _ w ⟨rfl, hE⟩
 replace hF := hF.ext hE
 replace hX := hX.ext hE
 replace hY := hY.ext hE
 replace hZ := hZ.ext hE
 clear hE
 refine ⟨hF.sub (.cons _ (.cons _ (.cons_cons _ (.cons_cons _ (.cons_cons _ (.cons_cons _ (.cons_cons _ (.cons_cons _ (.cons_cons _ (.cons_cons _ (.cons_cons _ (.cons_cons _ .slnil)))))))))))), ?_⟩
 refine f_call rfl (row_c (some ⟨b23, 0, none⟩) 2 2 _) (x_call1 en_43 rfl rfl) ?_
 rintro _ w ⟨rfl, hE⟩
 replace hF := hF.ext hE
 replace hX := hX.ext hE
 replace hY := hY.ext hE
 replace hZ := hZ.ext hE
 clear hE
 refine ⟨hF.sub (.cons _ (.cons _ (.cons_cons _ (.cons_cons _ (.cons_cons _ (.cons_cons _ (.cons_cons _ (.cons_cons _ (.cons_cons _ (.cons_cons _ (.cons_cons _ (.cons_cons _ .slnil)))))))))))), ?_⟩
 have hR1 : RX w0 [] w [treeD (.node 5 [] [] [n1T])] [.int .i64 (5), .string (bs ([])), .slice (none) (0) (0), .slice (some ⟨b21, 0, none⟩) (1) (1)] := RX.tree ⟨by omega, by omega⟩ (by simp) RX.nils (hF.rowX 1 rfl (RX.num _ (by simp)) (by simp) rfl (by omega))
 have hR2 : RX w0 [] w [treeD (.node 5 [] [] [n1T, n2T])] [.int .i64 (5), .string (bs ([])), .slice (none) (0) (0), .slice (some ⟨b23, 0, none⟩) (2) (2)] := RX.tree ⟨by omega, by omega⟩ (by simp) RX.nils (hF.rowX 0 rfl (RX.append (ds := [_]) (RX.num _ (by simp)) (RX.num _ (by simp))) (by simp) rfl (by omega))
 refine f_call rfl (ret_eq (v' := .int .i64 (-1)) (compareV_c (.node 5 [] [] [n1T]) (.node 5 [] [] [n1T, n2T]) (by decide) (by decide) _ _ _ _ _ hR1.rep hR2.rep (by simp [okT, okTs]) (by simp [okT, okTs]) (hG.ext hF.same)) (by kernel_rfl)) (x_call2 en_41 rfl rfl rfl) ?_
 rintro _ w ⟨rfl, hE⟩
 replace hF := hF.ext hE
 replace hX := hX.ext hE
 replace hY := hY.ext hE
 replace hZ := hZ.ext hE
 clear hE
 refine ⟨hF.sub (.cons _ (.cons _ (.cons_cons _ (.cons_cons _ (.cons_cons _ (.cons_cons _ (.cons_cons _ (.cons_cons _ (.cons_cons _ (.cons_cons _ (.cons_cons _ (.cons_cons _ .slnil)))))))))))), ?_⟩
 refine f_free rfl (v := .bool true) (fun w hC => run_true (x_eql rfl rfl) (by decide)) (f_free rfl (v := .bool true) (fun w hC => x_pickt rfl rfl) (f_free rfl (v := .bool true) (fun w hC => x_move rfl) ?_))
 refine f_call rfl (ret_eq (v' := .agg #[.int .i64 (3), .string (bs ([57])), .slice (none) (0) (0), .slice (none) (0) (0)]) (num_c 9 (by omega) (by omega) _ (hG.ext hF.same)) (by kernel_rfl)) (x_call1 en_39 rfl rfl) ?_
 rintro _ w ⟨rfl, hE⟩
 replace hF := hF.ext hE
 replace hX := hX.ext hE
 replace hY := hY.ext hE
 replace hZ := hZ.ext hE
 clear hE
 refine ⟨hF.sub (.cons _ (.cons _ (.cons_cons _ (.cons_cons _ (.cons_cons _ (.cons_cons _ (.cons_cons _ (.cons_cons _ (.cons_cons _ (.cons_cons _ (.cons_cons _ (.cons_cons _ .slnil)))))))))))), ?_⟩
 refine f_call rfl (ret_eq (v' := .agg #[.int .i64 (3), .string (bs ([49, 101, 49])), .slice (none) (0) (0), .slice (none) (0) (0)]) (num_c 10 (by omega) (by omega) _ (hG.ext hF.same)) (by kernel_rfl)) (x_call1 en_39 rfl rfl) ?_
 rintro _ w ⟨rfl, hE⟩
 replace hF := hF.ext hE
 replace hX := hX.ext hE
 replace hY := hY.ext hE
 replace hZ := hZ.ext hE
 clear hE
 refine ⟨hF.sub (.cons _ (.cons _ (.cons_cons _ (.cons_cons _ (.cons_cons _ (.cons_cons _ (.cons_cons _ (.cons_cons _ (.cons_cons _ (.cons_cons _ (.cons_cons _ (.cons_cons _ .slnil)))))))))))), ?_⟩
 refine f_call rfl (ret_eq (v' := .int .i64 (-1)) (compareV_c (.node 3 [57] [] []) (.node 3 [49, 101, 49] [] []) (by decide) (by decide) _ _ _ _ _ (RX.num (w0 := w0) (w := w) (ids := []) [57] (by simp)).rep (RX.num (w0 := w0) (w := w) (ids := []) [49, 101, 49] (by simp)).rep (by simp [okT, okTs]) (by simp [okT, okTs]) (hG.ext hF.same)) (by kernel_rfl)) (x_call2 en_41 rfl rfl rfl) ?_
 rintro _ w ⟨rfl, hE⟩
 replace hF := hF.ext hE
 replace hX := hX.ext hE
 replace hY := hY.ext hE
 replace hZ := hZ.ext hE
 clear hE
 refine ⟨hF.sub (.cons _ (.cons _ (.cons_cons _ (.cons_cons _ (.cons_cons _ (.cons_cons _ (.cons_cons _ (.cons_cons _ (.cons_cons _ (.cons_cons _ (.cons_cons _ (.cons_cons _ .slnil)))))))))))), ?_⟩
 refine f_free rfl (v := .bool true) (fun w hC => run_true (x_eql rfl rfl) (by decide)) (f_free rfl (v := .bool true) (fun w hC => x_pickt rfl rfl) (f_free rfl (v := .bool true) (fun w hC => x_move rfl) (f_free rfl (v := .agg (List.toArray cz)) (fun w hC => x_loadS (l := cz) Tryz.isAgg25 Tryz.sizeOf25 rfl hlz (hC.cellsAll 1 rfl)) ?_)))
 refine f_call rfl (ret_eq (v' := .int .i64 (4)) (size_v zT (by decide) _ _ cz hZ.rep) (by kernel_rfl)) (x_call1 en_24 rfl rfl) ?_
 rintro _ w ⟨rfl, hE⟩
 replace hF := hF.ext hE
 replace hX := hX.ext hE
 replace hY := hY.ext hE
 replace hZ := hZ.ext hE
 clear hE
 refine ⟨hF.sub (.cons _ (.cons _ (.cons_cons _ (.cons_cons _ (.cons_cons _ (.cons_cons _ (.cons_cons _ (.cons_cons _ (.cons_cons _ (.cons_cons _ (.cons_cons _ (.cons_cons _ .slnil)))))))))))), ?_⟩
 refine f_free rfl (v := .bool true) (fun w hC => run_true (x_eql rfl rfl) (by decide)) (f_free rfl (v := .bool true) (fun w hC => x_pickt rfl rfl) (f_free rfl (v := .bool true) (fun w hC => x_move rfl) (f_free rfl (v := .agg (List.toArray cz)) (fun w hC => x_loadS (l := cz) Tryz.isAgg25 Tryz.sizeOf25 rfl hlz (hC.cellsAll 1 rfl)) ?_)))
 refine f_call rfl (ret_eq (v' := .int .i64 (3)) (depth_c zT (by decide) _ _ cz hZ.rep) (by kernel_rfl)) (x_call1 en_36 rfl rfl) ?_
 rintro _ w ⟨rfl, hE⟩
 replace hF := hF.ext hE
 replace hX := hX.ext hE
 replace hY := hY.ext hE
 replace hZ := hZ.ext hE
 clear hE
 refine ⟨hF.sub (.cons _ (.cons _ (.cons_cons _ (.cons_cons _ (.cons_cons _ (.cons_cons _ (.cons_cons _ (.cons_cons _ (.cons_cons _ (.cons_cons _ (.cons_cons _ (.cons_cons _ .slnil)))))))))))), ?_⟩
 refine f_free rfl (v := .bool true) (fun w hC => run_true (x_eql rfl rfl) (by decide)) (f_free rfl (v := .bool true) (fun w hC => x_pickt rfl rfl) (f_free rfl (v := .bool true) (fun w hC => x_move rfl) (f_free rfl (v := .bool true) (fun w hC => x_move rfl) (f_free rfl (v := .bool true) (fun w hC => x_pickt rfl rfl) (f_free rfl (v := .bool true) (fun w hC => x_move rfl) (f_free rfl (v := .pointer (some ⟨b20, 1, none⟩)) (fun w hC => x_fieldAddrO fa_25_1 rfl) (f_free rfl (v := .string (bs ([50]))) (fun w hC => x_load Tryz.isAgg9 rfl (hC.cell 0 rfl rfl)) (f_free rfl (v := .bool true) (fun w hC => run_true (x_eqls rfl rfl) (by decide)) (f_free rfl (v := .bool true) (fun w hC => x_pickt rfl rfl) (f_free rfl (v := .bool true) (fun w hC => x_move rfl) (f_free rfl (v := .agg #[.int .i64 (6), .string (bs ([])), .slice (some ⟨b6, 0, none⟩) (2) (2), .slice (some ⟨b7, 0, none⟩) (2) (2)]) (fun w hC => x_loadS (l := [.int .i64 (6), .string (bs ([])), .slice (some ⟨b6, 0, none⟩) (2) (2), .slice (some ⟨b7, 0, none⟩) (2) (2)]) Tryz.isAgg25 Tryz.sizeOf25 rfl rfl (hC.cellsAll 2 rfl)) (f_free rfl (v := .agg #[.int .i64 (6), .string (bs ([])), .slice (some ⟨b3, 0, none⟩) (2) (2), .slice (some ⟨b4, 0, none⟩) (2) (2)]) (fun w hC => x_loadS (l := [.int .i64 (6), .string (bs ([])), .slice (some ⟨b3, 0, none⟩) (2) (2), .slice (some ⟨b4, 0, none⟩) (2) (2)]) Tryz.isAgg25 Tryz.sizeOf25 rfl rfl (hC.cellsAll 5 rfl)) ?_))))))))))))
 refine f_call rfl (sortedV_c yT (by decide) _ _ [.int .i64 6, .string (bs []), .slice (some ⟨b6, 0, none⟩) 2 2, .slice (some ⟨b7, 0, none⟩) 2 2] hY.rep okY (hG.ext hF.same)) (x_call1 en_26 rfl rfl) ?_
 rintro _ w ⟨cq, rfl, hRq, hE⟩
 rw [sorted_yT] at hRq
 have hlq : cq.length = 4 := hRq.length.trans (size_treeD _)
 have hoq := hRq.one_
 replace hX := hX.ext hE
 replace hF := hF.ext hE
 clear hE
 refine ⟨hF.sub (.cons _ (.cons _ (.cons_cons _ (.cons_cons _ (.cons_cons _ (.cons_cons _ (.cons_cons _ (.cons_cons _ (.cons_cons _ (.cons_cons _ (.cons_cons _ (.cons_cons _ .slnil)))))))))))), ?_⟩
 refine f_call rfl (ret_eq (v' := .bool true) (equal_c xT xT _ _ _ cq [.int .i64 6, .string (bs []), .slice (some ⟨b3, 0, none⟩) 2 2, .slice (some ⟨b4, 0, none⟩) 2 2] hRq hX.rep) (congrArg Value.bool (eqT_self _))) (x_call2 en_22 rfl rfl rfl) ?_
 rintro _ w ⟨rfl, hE⟩
 replace hF := hF.ext hE
 clear hE
 refine ⟨hF.sub (.cons _ (.cons _ (.cons_cons _ (.cons_cons _ (.cons_cons _ (.cons_cons _ (.cons_cons _ (.cons_cons _ (.cons_cons _ (.cons_cons _ (.cons_cons _ (.cons_cons _ .slnil)))))))))))), ?_⟩
 refine f_free rfl (v := .bool true) (fun w hC => x_pickt rfl rfl) (f_free rfl (v := .bool true) (fun w hC => x_move rfl) ?_)
 refine f_call rfl (of_c [97] _) (x_call1 en_25 rfl rfl) ?_
 rintro _ w ⟨rfl, hE⟩
 replace hF := hF.ext hE
 clear hE
 refine ⟨hF.sub (.cons _ (.cons _ (.cons_cons _ (.cons_cons _ (.cons_cons _ (.cons_cons _ (.cons_cons _ (.cons_cons _ (.cons_cons _ (.cons_cons _ (.cons_cons _ (.cons_cons _ .slnil)))))))))))), ?_⟩
 refine f_free rfl (v := .int .i64 (4)) (fun w hC => by kernel_rfl) ?_
 refine f_free rfl (v := .bool true) (fun w hC => run_true (x_eql rfl rfl) (by decide)) (f_free rfl (v := .bool true) (fun w hC => x_pickt rfl rfl) (f_free rfl (v := .bool true) (fun w hC => x_assign rfl) (d_nil (e_seq ?_))))
 refine c_ret (e_ret (post_ret (res_1 (v := .bool true) rfl rfl) ?_))
 exact ⟨rfl, hF.same⟩
 refine f_new rfl (v := fun b => .slice (some ⟨b, 0, none⟩) 2 2) hF (x_buildSlice (cs := #[.int .i64 (3), .string (bs ([49])), .slice (none) (0) (0), .slice (none) (0) (0), .int .i64 (3), .string (bs ([50])), .slice (none) (0) (0), .slice (none) (0) (0)]) Tryz.underlying23 Tryz.sizeOf25 Tryz.zeroValue25 (by decide) (by decide) (by kernel_rfl)) ?_
 clear hF; intro b24 w hb24 hF hE
 replace hX := hX.alloc hE hb24
 replace hY := hY.alloc hE hb24
 replace hZ := hZ.alloc hE hb24
 clear hE
 refine ⟨hF.sub (.cons _ (.cons_cons _ (.cons_cons _ (.cons_cons _ (.cons_cons _ (.cons_cons _ (.cons_cons _ (.cons_cons _ (.cons_cons _ (.cons_cons _ (.cons_cons _ .slnil))))))))))), ?_⟩
 refine f_new rfl (v := fun b => .slice (some ⟨b, 0, none⟩) 1 1) hF (x_buildSlice (cs := #[.int .i64 (3), .string (bs ([49])), .slice (none) (0) (0), .slice (none) (0) (0)]) Tryz.underlying23 Tryz.sizeOf25 Tryz.zeroValue25 (by decide) (by decide) (by kernel_rfl)) ?_
 clear hF; intro b25 w hb25 hF hE
 replace hX := hX.alloc hE hb25
 replace hY := hY.alloc hE hb25
 replace hZ := hZ.alloc hE hb25
 clear hE
 refine ⟨hF.sub (.cons _ (.cons _ (.cons_cons _ (.cons_cons _ (.cons_cons _ (.cons_cons _ (.cons_cons _ (.cons_cons _ (.cons_cons _ (.cons_cons _ (.cons_cons _ (.cons_cons _ .slnil)))))))))))), ?_⟩
 refine f_call rfl (row_c (some ⟨b25, 0, none⟩) 1 1 _) (x_call1 en_43 rfl rfl) ?_
 rintro _ w ⟨rfl, hE⟩
 replace hF := hF.ext hE
 replace hX := hX.ext hE
 replace hY := hY.ext hE
 replace hZ := hZ.ext hE
 clear hE
 refine ⟨hF.sub (.cons _ (.cons _ (.cons_cons _ (.cons_cons _ (.cons_cons _ (.cons_cons _ (.cons_cons _ (.cons_cons _ (.cons_cons _ (.cons_cons _ (.cons_cons _ (.cons_cons _ .slnil)))))))))))), ?_⟩
 refine f_call rfl (row_c (some ⟨b24, 0, none⟩) 2 2 _) (x_call1 en_43 rfl rfl) ?_
 rintro _ w ⟨rfl, hE⟩
 replace hF := hF.ext hE
 replace hX := hX.ext hE
 replace hY := hY.ext hE
 replace hZ := hZ.ext hE
 clear hE
 refine ⟨hF.sub (.cons _ (.cons _ (.cons_cons _ (.cons_cons _ (.cons_cons _ (.cons_cons _ (.cons_cons _ (.cons_cons _ (.cons_cons _ (.cons_cons _ (.cons_cons _ (.cons_cons _ .slnil)))))))))))), ?_⟩
 have hR1 : RX w0 [] w [treeD (.node 5 [] [] [n1T])] [.int .i64 (5), .string (bs ([])), .slice (none) (0) (0), .slice (some ⟨b25, 0, none⟩) (1) (1)] := RX.tree ⟨by omega, by omega⟩ (by simp) RX.nils (hF.rowX 0 rfl (RX.num _ (by simp)) (by simp) rfl (by omega))
 have hR2 : RX w0 [] w [treeD (.node 5 [] [] [n1T, n2T])] [.int .i64 (5), .string (bs ([])), .slice (none) (0) (0), .slice (some ⟨b24, 0, none⟩) (2) (2)] := RX.tree ⟨by omega, by omega⟩ (by simp) RX.nils (hF.rowX 1 rfl (RX.append (ds := [_]) (RX.num _ (by simp)) (RX.num _ (by simp))) (by simp) rfl (by omega))
 refine f_call rfl (ret_eq (v' := .int .i64 (-1)) (compareV_c (.node 5 [] [] [n1T]) (.node 5 [] [] [n1T, n2T]) (by decide) (by decide) _ _ _ _ _ hR1.rep hR2.rep (by simp [okT, okTs]) (by simp [okT, okTs]) (hG.ext hF.same)) (by kernel_rfl)) (x_call2 en_41 rfl rfl rfl) ?_
 rintro _ w ⟨rfl, hE⟩
 replace hF := hF.ext hE
 replace hX := hX.ext hE
 replace hY := hY.ext hE
 replace hZ := hZ.ext hE
 clear hE
 refine ⟨hF.sub (.cons _ (.cons _ (.cons_cons _ (.cons_cons _ (.cons_cons _ (.cons_cons _ (.cons_cons _ (.cons_cons _ (.cons_cons _ (.cons_cons _ (.cons_cons _ (.cons_cons _ .slnil)))))))))))), ?_⟩
 refine f_free rfl (v := .bool true) (fun w hC => run_true (x_eql rfl rfl) (by decide)) (f_free rfl (v := .bool true) (fun w hC => x_pickt rfl rfl) (f_free rfl (v := .bool true) (fun w hC => x_move rfl) ?_))
 refine f_call rfl (ret_eq (v' := .agg #[.int .i64 (3), .string (bs ([57])), .slice (none) (0) (0), .slice (none) (0) (0)]) (num_c 9 (by omega) (by omega) _ (hG.ext hF.same)) (by kernel_rfl)) (x_call1 en_39 rfl rfl) ?_
 rintro _ w ⟨rfl, hE⟩
 replace hF := hF.ext hE
 replace hX := hX.ext hE
 replace hY := hY.ext hE
 replace hZ := hZ.ext hE
 clear hE
 refine ⟨hF.sub (.cons _ (.cons _ (.cons_cons _ (.cons_cons _ (.cons_cons _ (.cons_cons _ (.cons_cons _ (.cons_cons _ (.cons_cons _ (.cons_cons _ (.cons_cons _ (.cons_cons _ .slnil)))))))))))), ?_⟩
 refine f_call rfl (ret_eq (v' := .agg #[.int .i64 (3), .string (bs ([49, 101, 49])), .slice (none) (0) (0), .slice (none) (0) (0)]) (num_c 10 (by omega) (by omega) _ (hG.ext hF.same)) (by kernel_rfl)) (x_call1 en_39 rfl rfl) ?_
 rintro _ w ⟨rfl, hE⟩
 replace hF := hF.ext hE
 replace hX := hX.ext hE
 replace hY := hY.ext hE
 replace hZ := hZ.ext hE
 clear hE
 refine ⟨hF.sub (.cons _ (.cons _ (.cons_cons _ (.cons_cons _ (.cons_cons _ (.cons_cons _ (.cons_cons _ (.cons_cons _ (.cons_cons _ (.cons_cons _ (.cons_cons _ (.cons_cons _ .slnil)))))))))))), ?_⟩
 refine f_call rfl (ret_eq (v' := .int .i64 (-1)) (compareV_c (.node 3 [57] [] []) (.node 3 [49, 101, 49] [] []) (by decide) (by decide) _ _ _ _ _ (RX.num (w0 := w0) (w := w) (ids := []) [57] (by simp)).rep (RX.num (w0 := w0) (w := w) (ids := []) [49, 101, 49] (by simp)).rep (by simp [okT, okTs]) (by simp [okT, okTs]) (hG.ext hF.same)) (by kernel_rfl)) (x_call2 en_41 rfl rfl rfl) ?_
 rintro _ w ⟨rfl, hE⟩
 replace hF := hF.ext hE
 replace hX := hX.ext hE
 replace hY := hY.ext hE
 replace hZ := hZ.ext hE
 clear hE
 refine ⟨hF.sub (.cons _ (.cons _ (.cons_cons _ (.cons_cons _ (.cons_cons _ (.cons_cons _ (.cons_cons _ (.cons_cons _ (.cons_cons _ (.cons_cons _ (.cons_cons _ (.cons_cons _ .slnil)))))))))))), ?_⟩
 refine f_free rfl (v := .bool true) (fun w hC => run_true (x_eql rfl rfl) (by decide)) (f_free rfl (v := .bool true) (fun w hC => x_pickt rfl rfl) (f_free rfl (v := .bool true) (fun w hC => x_move rfl) (f_free rfl (v := .agg (List.toArray cz)) (fun w hC => x_loadS (l := cz) Tryz.isAgg25 Tryz.sizeOf25 rfl hlz (hC.cellsAll 1 rfl)) ?_)))
 refine f_call rfl (ret_eq (v' := .int .i64 (4)) (size_v zT (by decide) _ _ cz hZ.rep) (by kernel_rfl)) (x_call1 en_24 rfl rfl) ?_
 rintro _ w ⟨rfl, hE⟩
 replace hF := hF.ext hE
 replace hX := hX.ext hE
 replace hY := hY.ext hE
 replace hZ := hZ.ext hE
 clear hE
 refine ⟨hF.sub (.cons _ (.cons _ (.cons_cons _ (.cons_cons _ (.cons_cons _ (.cons_cons _ (.cons_cons _ (.cons_cons _ (.cons_cons _ (.cons_cons _ (.cons_cons _ (.cons_cons _ .slnil)))))))))))), ?_⟩
 refine f_free rfl (v := .bool true) (fun w hC => run_true (x_eql rfl rfl) (by decide)) (f_free rfl (v := .bool true) (fun w hC => x_pickt rfl rfl) (f_free rfl (v := .bool true) (fun w hC => x_move rfl) (f_free rfl (v := .agg (List.toArray cz)) (fun w hC => x_loadS (l := cz) Tryz.isAgg25 Tryz.sizeOf25 rfl hlz (hC.cellsAll 1 rfl)) ?_)))
 refine f_call rfl (ret_eq (v' := .int .i64 (3)) (depth_c zT (by decide) _ _ cz hZ.rep) (by kernel_rfl)) (x_call1 en_36 rfl rfl) ?_
 rintro _ w ⟨rfl, hE⟩
 replace hF := hF.ext hE
 replace hX := hX.ext hE
 replace hY := hY.ext hE
 replace hZ := hZ.ext hE
 clear hE
 refine ⟨hF.sub (.cons _ (.cons _ (.cons_cons _ (.cons_cons _ (.cons_cons _ (.cons_cons _ (.cons_cons _ (.cons_cons _ (.cons_cons _ (.cons_cons _ (.cons_cons _ (.cons_cons _ .slnil)))))))))))), ?_⟩
 refine f_free rfl (v := .bool true) (fun w hC => run_true (x_eql rfl rfl) (by decide)) (f_free rfl (v := .bool true) (fun w hC => x_pickt rfl rfl) (f_free rfl (v := .bool true) (fun w hC => x_move rfl) (f_free rfl (v := .bool true) (fun w hC => x_move rfl) (f_free rfl (v := .bool true) (fun w hC => x_pickt rfl rfl) (f_free rfl (v := .bool true) (fun w hC => x_move rfl) (f_free rfl (v := .pointer (some ⟨b20, 1, none⟩)) (fun w hC => x_fieldAddrO fa_25_1 rfl) (f_free rfl (v := .string (bs ([50]))) (fun w hC => x_load Tryz.isAgg9 rfl (hC.cell 0 rfl rfl)) (f_free rfl (v := .bool true) (fun w hC => run_true (x_eqls rfl rfl) (by decide)) (f_free rfl (v := .bool true) (fun w hC => x_pickt rfl rfl) (f_free rfl (v := .bool true) (fun w hC => x_move rfl) (f_free rfl (v := .agg #[.int .i64 (6), .string (bs ([])), .slice (some ⟨b6, 0, none⟩) (2) (2), .slice (some ⟨b7, 0, none⟩) (2) (2)]) (fun w hC => x_loadS (l := [.int .i64 (6), .string (bs ([])), .slice (some ⟨b6, 0, none⟩) (2) (2), .slice (some ⟨b7, 0, none⟩) (2) (2)]) Tryz.isAgg25 Tryz.sizeOf25 rfl rfl (hC.cellsAll 2 rfl)) (f_free rfl (v := .agg #[.int .i64 (6), .string (bs ([])), .slice (some ⟨b3, 0, none⟩) (2) (2), .slice (some ⟨b4, 0, none⟩) (2) (2)]) (fun w hC => x_loadS (l := [.int .i64 (6), .string (bs ([])), .slice (some ⟨b3, 0, none⟩) (2) (2), .slice (some ⟨b4, 0, none⟩) (2) (2)]) Tryz.isAgg25 Tryz.sizeOf25 rfl rfl (hC.cellsAll 5 rfl)) ?_))))))))))))
 refine f_call rfl (sortedV_c yT (by decide) _ _ [.int .i64 6, .string (bs []), .slice (some ⟨b6, 0, none⟩) 2 2, .slice (some ⟨b7, 0, none⟩) 2 2] hY.rep okY (hG.ext hF.same)) (x_call1 en_26 rfl rfl) ?_
 rintro _ w ⟨cq, rfl, hRq, hE⟩
 rw [sorted_yT] at hRq
 have hlq : cq.length = 4 := hRq.length.trans (size_treeD _)
 have hoq := hRq.one_
 replace hX := hX.ext hE
 replace hF := hF.ext hE
 clear hE
 refine ⟨hF.sub (.cons _ (.cons _ (.cons_cons _ (.cons_cons _ (.cons_cons _ (.cons_cons _ (.cons_cons _ (.cons_cons _ (.cons_cons _ (.cons_cons _ (.cons_cons _ (.cons_cons _ .slnil)))))))))))), ?_⟩
 refine f_call rfl (ret_eq (v' := .bool true) (equal_c xT xT _ _ _ cq [.int .i64 6, .string (bs []), .slice (some ⟨b3, 0, none⟩) 2 2, .slice (some ⟨b4, 0, none⟩) 2 2] hRq hX.rep) (congrArg Value.bool (eqT_self _))) (x_call2 en_22 rfl rfl rfl) ?_
 rintro _ w ⟨rfl, hE⟩
 replace hF := hF.ext hE
 clear hE
 refine ⟨hF.sub (.cons _ (.cons _ (.cons_cons _ (.cons_cons _ (.cons_cons _ (.cons_cons _ (.cons_cons _ (.cons_cons _ (.cons_cons _ (.cons_cons _ (.cons_cons _ (.cons_cons _ .slnil)))))))))))), ?_⟩
 refine f_free rfl (v := .bool true) (fun w hC => x_pickt rfl rfl) (f_free rfl (v := .bool true) (fun w hC => x_move rfl) ?_)
 refine f_call rfl (of_c [97] _) (x_call1 en_25 rfl rfl) ?_
 rintro _ w ⟨rfl, hE⟩
 replace hF := hF.ext hE
 clear hE
 refine ⟨hF.sub (.cons _ (.cons _ (.cons_cons _ (.cons_cons _ (.cons_cons _ (.cons_cons _ (.cons_cons _ (.cons_cons _ (.cons_cons _ (.cons_cons _ (.cons_cons _ (.cons_cons _ .slnil)))))))))))), ?_⟩
 refine f_free rfl (v := .int .i64 (4)) (fun w hC => by kernel_rfl) ?_
 refine f_free rfl (v := .bool true) (fun w hC => run_true (x_eql rfl rfl) (by decide)) (f_free rfl (v := .bool true) (fun w hC => x_pickt rfl rfl) (f_free rfl (v := .bool true) (fun w hC => x_assign rfl) (d_nil (e_seq ?_))))
 refine c_ret (e_ret (post_ret (res_1 (v := .bool true) rfl rfl) ?_))
 exact ⟨rfl, hF.same⟩
end Go.Scarf
