/- A part of the proof. -/
import Derived.Test.YtehmojdjpmliaaaGreatDoorV2
import Derived.Test.YtehmojdjpmliaaaGreatDoorP2
set_option linter.all false
namespace Go.Scarf
open Go.RowKit Go.Proofs
theorem copy_open {x : Tree} (h : openB x = true) : copyV x = x := by rw [copyV, if_pos h]
set_option maxHeartbeats 4000000 in
set_option maxRecDepth 10000 in
theorem valueSorts_w (w0 : World) (hG : Gl w0) (x : Tree) (cx : List Value) (rx : Rep (fun _ => True) w0 (treeD x) cx) (y : Tree) (cy : List Value) (ry : Rep (fun _ => True) w0 (treeD y) cy) : Calls Tryz.prog 11 #[.agg cx.toArray, .agg cy.toArray] w0 (Ret fun v w' => v = .bool true ∧ Same [] w0 w') := by
  have hlcx : cx.length = 4 := rx.length.trans (size_treeD x)
  have hlcy : cy.length = 4 := ry.length.trans (size_treeD y)
  have hocx := rx.one_
  have hocy := ry.one_
  refine calls_start Tryz.func11 rfl Tryz.ntmps11 (Nat.le_of_ble_eq_true rfl) (args_2 _ _) ?_
  have hF := FR.start w0 []
  refine c_seq ?_
  refine c_region ?_
  refine o_box (v := .agg (List.toArray cx)) (cs := (List.toArray cx)) hF rfl rfl ?_
  clear hF; intro b1 w hb1 hF hE
  clear hE
  refine o_box (v := .agg (List.toArray cy)) (cs := (List.toArray cy)) hF rfl rfl ?_
  clear hF; intro b2 w hb2 hF hE
  clear hE
  refine o_val (v := .bool false) (x_assign rfl) ?_
  refine o_nil ?_
  refine e_seq ?_
  refine c_seq ?_
  refine c_region ?_
  refine o_call (small_c _ (hG.ext hF.same)) (x_call0 en_27 rfl) ?_
  rintro _ w ⟨rfl, hE⟩
  replace hF := hF.ext hE
  clear hE
  refine o_val (v := .bool true) (x_assign rfl) ?_
  refine o_nil ?_
  refine e_seq ?_
  refine c_seq ?_
  refine c_region ?_
  refine o_val (v := .agg (List.toArray cx)) (x_loadS (l := cx) Tryz.isAgg25 Tryz.sizeOf25 rfl hlcx (hF.cellsAll 1 rfl)) ?_
  refine o_call (few_v x 200 (by omega) (by omega) _ _ cx (hF.rep rx)) (x_call2 en_14 rfl rfl rfl) ?_
  rintro _ w ⟨rfl, hE⟩
  replace hF := hF.ext hE
  clear hE
  refine o_val (v := .bool (fewB x 200)) (x_move rfl) ?_
  refine o_split (d := 12) (b := fewB x 200) rfl (fun hg0 => ?_) (fun hg0 => ?_)
  ·
    refine o_val (v := .agg (List.toArray cy)) (x_loadS (l := cy) Tryz.isAgg25 Tryz.sizeOf25 rfl hlcy (hF.cellsAll 0 rfl)) ?_
    refine o_call (few_v y 200 (by omega) (by omega) _ _ cy (hF.rep ry)) (x_call2 en_14 rfl rfl rfl) ?_
    rintro _ w ⟨rfl, hE⟩
    replace hF := hF.ext hE
    clear hE
    refine o_val (v := .bool (fewB y 200)) (x_pickt rfl rfl) ?_
    refine o_val (v := .bool (fewB y 200)) (x_assign rfl) ?_
    refine o_nil ?_
    refine e_seq ?_
    refine c_seq ?_
    refine c_seq ?_
    refine c_region ?_
    refine o_val (v := .bool (fewB y 200)) (x_move rfl) ?_
    refine o_val (v := .bool (!(fewB y 200))) (x_not rfl) ?_
    refine o_val (v := .bool (!(fewB y 200))) (x_move rfl) ?_
    refine o_split (d := 18) (b := !(fewB y 200)) rfl (fun hg1 => ?_) (fun hg1 => ?_)
    ·
      refine o_off ?_
      refine o_off ?_
      refine o_off ?_
      refine o_val (v := .bool true) (x_pickt rfl rfl) ?_
      refine o_val (v := .bool true) (x_move rfl) ?_
      refine o_off ?_
      refine o_off ?_
      refine o_off ?_
      refine o_val (v := .bool true) (x_pickt rfl rfl) ?_
      refine o_nil ?_
      refine e_seq ?_
      refine c_ift rfl ?_
      refine c_seq ?_
      refine c_region ?_
      refine o_val (v := .bool true) (x_move rfl) ?_
      refine o_val (v := .bool true) (x_assign rfl) ?_
      refine o_nil ?_
      refine e_seq ?_
      refine c_ret (e_ret (post_ret (res_1 (v := .bool true) rfl rfl) ?_))
      exact ⟨rfl, hF.same⟩
    ·
      refine o_val (v := .agg (List.toArray cx)) (x_loadS (l := cx) Tryz.isAgg25 Tryz.sizeOf25 rfl hlcx (hF.cellsAll 1 rfl)) ?_
      have fx_ : fewB x 200 = true := by simp_all
      obtain ⟨sx, -, tx⟩ := fewB_ok (by omega) fx_
      have kx := short_ok x tx
      refine o_call (open_v x (by omega) _ _ cx (hF.rep rx) kx (hG.ext hF.same)) (x_call1 en_33 rfl rfl) ?_
      rintro _ w ⟨rfl, hE⟩
      replace hF := hF.ext hE
      clear hE
      refine o_val (v := .bool (!(openB x))) (x_not rfl) ?_
      refine o_val (v := .bool (!(openB x))) (x_pickf rfl rfl) ?_
      refine o_val (v := .bool (!(openB x))) (x_move rfl) ?_
      refine o_split (d := 23) (b := !(openB x)) rfl (fun hg2 => ?_) (fun hg2 => ?_)
      ·
        refine o_off ?_
        refine o_off ?_
        refine o_off ?_
        refine o_val (v := .bool true) (x_pickt rfl rfl) ?_
        refine o_nil ?_
        refine e_seq ?_
        refine c_ift rfl ?_
        refine c_seq ?_
        refine c_region ?_
        refine o_val (v := .bool true) (x_move rfl) ?_
        refine o_val (v := .bool true) (x_assign rfl) ?_
        refine o_nil ?_
        refine e_seq ?_
        refine c_ret (e_ret (post_ret (res_1 (v := .bool true) rfl rfl) ?_))
        exact ⟨rfl, hF.same⟩
      ·
        refine o_val (v := .agg (List.toArray cy)) (x_loadS (l := cy) Tryz.isAgg25 Tryz.sizeOf25 rfl hlcy (hF.cellsAll 0 rfl)) ?_
        have fy_ : fewB y 200 = true := by simp_all
        obtain ⟨sy, -, ty⟩ := fewB_ok (by omega) fy_
        have ky := short_ok y ty
        refine o_call (open_v y (by omega) _ _ cy (hF.rep ry) ky (hG.ext hF.same)) (x_call1 en_33 rfl rfl) ?_
        rintro _ w ⟨rfl, hE⟩
        replace hF := hF.ext hE
        clear hE
        refine o_val (v := .bool (!(openB y))) (x_not rfl) ?_
        refine o_val (v := .bool (!(openB y))) (x_pickf rfl rfl) ?_
        refine o_nil ?_
        refine e_seq ?_
        refine c_split (d := 27) (b := !(openB y)) rfl (fun hc0 => ?_) (fun hc0 => ?_)
        ·
          refine c_ift rfl ?_
          refine c_seq ?_
          refine c_region ?_
          refine o_val (v := .bool true) (x_move rfl) ?_
          refine o_val (v := .bool true) (x_assign rfl) ?_
          refine o_nil ?_
          refine e_seq ?_
          refine c_ret (e_ret (post_ret (res_1 (v := .bool true) rfl rfl) ?_))
          exact ⟨rfl, hF.same⟩
        ·
          refine c_iff rfl ?_
          refine c_skip ?_
          refine e_seq ?_
          refine c_seq ?_
          refine c_region ?_
          have fx_ : fewB x 200 = true := by simp_all
          obtain ⟨sx, -, tx⟩ := fewB_ok (by omega) fx_
          have kx := short_ok x tx
          have ox : openB x = true := by simp_all
          have ix := sort_size x (open_all ox)
          have jx := okT_sort x kx
          have dx := depth_le x
          have ex := sorted_open ox
          have fy_ : fewB y 200 = true := by simp_all
          obtain ⟨sy, -, ty⟩ := fewB_ok (by omega) fy_
          have ky := short_ok y ty
          have oy : openB y = true := by simp_all
          have iy := sort_size y (open_all oy)
          have jy := okT_sort y ky
          have dy := depth_le y
          have ey := sorted_open oy
          refine o_val (v := .agg (List.toArray cx)) (x_loadS (l := cx) Tryz.isAgg25 Tryz.sizeOf25 rfl hlcx (hF.cellsAll 1 rfl)) ?_
          refine o_call (sortedV_c x (by omega) _ _ cx (hF.rep rx) kx (hG.ext hF.same)) (x_call1 en_26 rfl rfl) ?_
          rintro _ w ⟨c1, rfl, hRt, hE⟩
          rw [ex] at hRt
          have hlc1 : c1.length = 4 := hRt.length.trans (size_treeD _)
          have hoc1 := hRt.one_
          have hX1 := RX.made (ids := [b2, b1]) hF.same.size (fun x hx => hF.lt_ids (by grind)) hRt
          replace hF := hF.ext hE
          clear hE hRt
          refine o_lay (l := c1) hF Tryz.zeroValue25 (by rw [hlc1]; exact Tryz.sizeOf25) (by rw [hlc1]; rfl) (v := .agg (List.toArray c1)) rfl rfl (hoc1) rfl ?_
          clear hF; intro b3 w hb3 hF hE
          replace hX1 := hX1.alloc hE hb3
          clear hE
          refine o_nil ?_
          refine e_seq ?_
          refine c_seq ?_
          refine c_region ?_
          refine o_val (v := .agg (List.toArray cy)) (x_loadS (l := cy) Tryz.isAgg25 Tryz.sizeOf25 rfl hlcy (hF.cellsAll 1 rfl)) ?_
          refine o_call (sortedV_c y (by omega) _ _ cy (hF.rep ry) ky (hG.ext hF.same)) (x_call1 en_26 rfl rfl) ?_
          rintro _ w ⟨c2, rfl, hRt, hE⟩
          rw [ey] at hRt
          have hlc2 : c2.length = 4 := hRt.length.trans (size_treeD _)
          have hoc2 := hRt.one_
          have hX2 := RX.made (ids := [b3, b2, b1]) hF.same.size (fun x hx => hF.lt_ids (by grind)) hRt
          replace hX1 := hX1.ext hE
          replace hF := hF.ext hE
          clear hE hRt
          refine o_lay (l := c2) hF Tryz.zeroValue25 (by rw [hlc2]; exact Tryz.sizeOf25) (by rw [hlc2]; rfl) (v := .agg (List.toArray c2)) rfl rfl (hoc2) rfl ?_
          clear hF; intro b4 w hb4 hF hE
          replace hX1 := hX1.alloc hE hb4
          replace hX2 := hX2.alloc hE hb4
          clear hE
          refine o_nil ?_
          refine e_seq ?_
          refine c_seq ?_
          refine c_drawF [] (.free 0 (.free 1 (.free 2 (.free 3 (.act 4 (.free 5 (.free 6 (.free 7 (.free 9 (.act 8 (.act 10 (.free 11 (.free 12 (.free 13 (.free 14 (.free 16 (.free 17 (.act 15 (.act 18 (.free 19 (.free 20 (.free 21 (.free 22 (.free 24 (.act 23 (.act 25 (.free 26 (.free 27 (.free 28 (.free 30 (.act 29 (.act 31 (.free 32 (.free 33 (.free 34 (.free 35 (.free 37 (.act 36 (.act 38 (.free 39 (.free 40 (.free 41 .nil)))))))))))))))))))))))))))))))))))))))))) (by kernel_rfl) hF (by kernel_rfl) (by kernel_rfl) ?_
          clear hF; intro w hF hE
          replace hX1 := hX1.ext hE
          replace hX2 := hX2.ext hE
          clear hE
          refine ⟨fun wq => FR w0 [] [(b4, .cells (List.toArray c2) 25), (b3, .cells (List.toArray c1) 25), (b2, .cells (List.toArray cy) 25), (b1, .cells (List.toArray cx) 25)] wq, hF, ?_⟩
          refine f_free rfl (v := .bool true) (fun w hC => x_move rfl) ?_
          refine f_free rfl (v := .bool true) (fun w hC => x_move rfl) ?_
          refine f_free rfl (v := .agg (List.toArray c1)) (fun w hC => x_loadS (l := c1) Tryz.isAgg25 Tryz.sizeOf25 rfl hlc1 (hC.cellsAll 1 rfl)) ?_
          refine f_free rfl (v := .agg (List.toArray cx)) (fun w hC => x_loadS (l := cx) Tryz.isAgg25 Tryz.sizeOf25 rfl hlcx (hC.cellsAll 3 rfl)) ?_
          refine f_call rfl (ret_eq (v' := .bool true) (sameV_c (sortT x) x (by omega) (by omega) _ _ _ c1 cx hX1.rep (hF.rep rx) jx kx (hG.ext hF.same)) (congrArg Value.bool (same_sort ox))) (x_call2 en_42 rfl rfl rfl) ?_
          rintro _ w ⟨rfl, hE⟩
          replace hF := hF.ext hE
          replace hX1 := hX1.ext hE
          replace hX2 := hX2.ext hE
          clear hE
          refine ⟨hF, ?_⟩
          refine f_free rfl (v := .bool true) (fun w hC => x_pickt rfl rfl) ?_
          refine f_free rfl (v := .bool true) (fun w hC => x_move rfl) ?_
          refine f_free rfl (v := .agg (List.toArray c1)) (fun w hC => x_loadS (l := c1) Tryz.isAgg25 Tryz.sizeOf25 rfl hlc1 (hC.cellsAll 1 rfl)) ?_
          refine f_free rfl (v := .agg (List.toArray c1)) (fun w hC => x_loadS (l := c1) Tryz.isAgg25 Tryz.sizeOf25 rfl hlc1 (hC.cellsAll 1 rfl)) ?_
          refine f_call rfl (sortedV_c (sortT x) (by omega) _ _ c1 hX1.rep jx (hG.ext hF.same)) (x_call1 en_26 rfl rfl) ?_
          rintro _ w ⟨c3, rfl, hRt, hE⟩
          rw [sorted_sort ox] at hRt
          have hlc3 : c3.length = 4 := hRt.length.trans (size_treeD _)
          have hoc3 := hRt.one_
          have hX3 := RX.made (ids := [b4, b3, b2, b1]) hF.same.size (fun x hx => hF.lt_ids (by grind)) hRt
          replace hX1 := hX1.ext hE
          replace hX2 := hX2.ext hE
          replace hF := hF.ext hE
          clear hE hRt
          refine ⟨hF, ?_⟩
          refine f_call rfl (ret_eq (v' := .bool true) (equal_c (sortT x) (sortT x) _ _ _ c3 c1 hX3.rep hX1.rep) (congrArg Value.bool (eqT_self _))) (x_call2 en_22 rfl rfl rfl) ?_
          rintro _ w ⟨rfl, hE⟩
          replace hF := hF.ext hE
          replace hX1 := hX1.ext hE
          replace hX2 := hX2.ext hE
          replace hX3 := hX3.ext hE
          clear hE
          refine ⟨hF, ?_⟩
          refine f_free rfl (v := .bool true) (fun w hC => x_pickt rfl rfl) ?_
          refine f_free rfl (v := .bool true) (fun w hC => x_move rfl) ?_
          refine f_free rfl (v := .agg (List.toArray cx)) (fun w hC => x_loadS (l := cx) Tryz.isAgg25 Tryz.sizeOf25 rfl hlcx (hC.cellsAll 3 rfl)) ?_
          refine f_free rfl (v := .agg (List.toArray cy)) (fun w hC => x_loadS (l := cy) Tryz.isAgg25 Tryz.sizeOf25 rfl hlcy (hC.cellsAll 2 rfl)) ?_
          refine f_free rfl (v := .agg (List.toArray c1)) (fun w hC => x_loadS (l := c1) Tryz.isAgg25 Tryz.sizeOf25 rfl hlc1 (hC.cellsAll 1 rfl)) ?_
          refine f_free rfl (v := .agg (List.toArray c2)) (fun w hC => x_loadS (l := c2) Tryz.isAgg25 Tryz.sizeOf25 rfl hlc2 (hC.cellsAll 0 rfl)) ?_
          refine f_call rfl (sameV_c x y (by omega) (by omega) _ _ _ cx cy (hF.rep rx) (hF.rep ry) kx ky (hG.ext hF.same)) (x_call2 en_42 rfl rfl rfl) ?_
          rintro _ w ⟨rfl, hE⟩
          replace hF := hF.ext hE
          replace hX1 := hX1.ext hE
          replace hX2 := hX2.ext hE
          replace hX3 := hX3.ext hE
          clear hE
          refine ⟨hF, ?_⟩
          refine f_call rfl (equal_c (sortT x) (sortT y) _ _ _ c1 c2 hX1.rep hX2.rep) (x_call2 en_22 rfl rfl rfl) ?_
          rintro _ w ⟨rfl, hE⟩
          replace hF := hF.ext hE
          replace hX1 := hX1.ext hE
          replace hX2 := hX2.ext hE
          replace hX3 := hX3.ext hE
          clear hE
          refine ⟨hF, ?_⟩
          refine f_free rfl (v := .bool true) (fun w hC => run_bool (x_eqlb Tryz.underlying4 rfl rfl) (by rw [same_eq ox oy]; exact beq_self_eq_true _)) ?_
          refine f_free rfl (v := .bool true) (fun w hC => x_pickt rfl rfl) ?_
          refine f_free rfl (v := .bool true) (fun w hC => x_move rfl) ?_
          refine f_free rfl (v := .agg (List.toArray cx)) (fun w hC => x_loadS (l := cx) Tryz.isAgg25 Tryz.sizeOf25 rfl hlcx (hC.cellsAll 3 rfl)) ?_
          refine f_free rfl (v := .agg (List.toArray cx)) (fun w hC => x_loadS (l := cx) Tryz.isAgg25 Tryz.sizeOf25 rfl hlcx (hC.cellsAll 3 rfl)) ?_
          refine f_call rfl (copyV_c x (by omega) _ _ cx (hF.rep rx) kx (hG.ext hF.same)) (x_call1 en_44 rfl rfl) ?_
          rintro _ w ⟨c4, rfl, hRt, hE⟩
          rw [copy_open ox] at hRt
          have hlc4 : c4.length = 4 := hRt.length.trans (size_treeD _)
          have hoc4 := hRt.one_
          have hX4 := RX.made (ids := [b4, b3, b2, b1]) hF.same.size (fun x hx => hF.lt_ids (by grind)) hRt
          replace hX1 := hX1.ext hE
          replace hX2 := hX2.ext hE
          replace hX3 := hX3.ext hE
          replace hF := hF.ext hE
          clear hE hRt
          refine ⟨hF, ?_⟩
          refine f_call rfl (ret_eq (v' := .bool true) (equal_c x x _ _ _ c4 cx hX4.rep (hF.rep rx)) (congrArg Value.bool (eqT_self _))) (x_call2 en_22 rfl rfl rfl) ?_
          rintro _ w ⟨rfl, hE⟩
          replace hF := hF.ext hE
          replace hX1 := hX1.ext hE
          replace hX2 := hX2.ext hE
          replace hX3 := hX3.ext hE
          replace hX4 := hX4.ext hE
          clear hE
          refine ⟨hF, ?_⟩
          refine f_free rfl (v := .bool true) (fun w hC => x_pickt rfl rfl) ?_
          refine f_free rfl (v := .bool true) (fun w hC => x_move rfl) ?_
          refine f_free rfl (v := .agg (List.toArray c1)) (fun w hC => x_loadS (l := c1) Tryz.isAgg25 Tryz.sizeOf25 rfl hlc1 (hC.cellsAll 1 rfl)) ?_
          refine f_free rfl (v := .agg (List.toArray cx)) (fun w hC => x_loadS (l := cx) Tryz.isAgg25 Tryz.sizeOf25 rfl hlcx (hC.cellsAll 3 rfl)) ?_
          refine f_call rfl (size_v (sortT x) (by omega) _ _ c1 hX1.rep) (x_call1 en_24 rfl rfl) ?_
          rintro _ w ⟨rfl, hE⟩
          replace hF := hF.ext hE
          replace hX1 := hX1.ext hE
          replace hX2 := hX2.ext hE
          replace hX3 := hX3.ext hE
          replace hX4 := hX4.ext hE
          clear hE
          refine ⟨hF, ?_⟩
          refine f_call rfl (size_v x (by omega) _ _ cx (hF.rep rx)) (x_call1 en_24 rfl rfl) ?_
          rintro _ w ⟨rfl, hE⟩
          replace hF := hF.ext hE
          replace hX1 := hX1.ext hE
          replace hX2 := hX2.ext hE
          replace hX3 := hX3.ext hE
          replace hX4 := hX4.ext hE
          clear hE
          refine ⟨hF, ?_⟩
          refine f_free rfl (v := .bool true) (fun w hC => run_true (x_eql rfl rfl) (by omega)) ?_
          refine f_free rfl (v := .bool true) (fun w hC => x_pickt rfl rfl) ?_
          refine f_free rfl (v := .bool true) (fun w hC => x_move rfl) ?_
          refine f_free rfl (v := .agg (List.toArray c1)) (fun w hC => x_loadS (l := c1) Tryz.isAgg25 Tryz.sizeOf25 rfl hlc1 (hC.cellsAll 1 rfl)) ?_
          refine f_free rfl (v := .agg (List.toArray cx)) (fun w hC => x_loadS (l := cx) Tryz.isAgg25 Tryz.sizeOf25 rfl hlcx (hC.cellsAll 3 rfl)) ?_
          refine f_call rfl (depth_c (sortT x) (by omega) _ _ c1 hX1.rep) (x_call1 en_36 rfl rfl) ?_
          rintro _ w ⟨rfl, hE⟩
          replace hF := hF.ext hE
          replace hX1 := hX1.ext hE
          replace hX2 := hX2.ext hE
          replace hX3 := hX3.ext hE
          replace hX4 := hX4.ext hE
          clear hE
          refine ⟨hF, ?_⟩
          refine f_call rfl (depth_c x (by omega) _ _ cx (hF.rep rx)) (x_call1 en_36 rfl rfl) ?_
          rintro _ w ⟨rfl, hE⟩
          replace hF := hF.ext hE
          replace hX1 := hX1.ext hE
          replace hX2 := hX2.ext hE
          replace hX3 := hX3.ext hE
          replace hX4 := hX4.ext hE
          clear hE
          refine ⟨hF, ?_⟩
          refine f_free rfl (v := .bool true) (fun w hC => run_true (x_eql rfl rfl) (by omega)) ?_
          refine f_free rfl (v := .bool true) (fun w hC => x_pickt rfl rfl) ?_
          refine f_free rfl (v := .bool true) (fun w hC => x_assign rfl) ?_
          refine d_nil ?_
          refine e_seq ?_
          refine c_ret (e_ret (post_ret (res_1 (v := .bool true) rfl rfl) ?_))
          exact ⟨rfl, hF.same⟩
  ·
    refine o_off ?_
    refine o_off ?_
    refine o_val (v := .bool false) (x_pickf rfl rfl) ?_
    refine o_val (v := .bool false) (x_assign rfl) ?_
    refine o_nil ?_
    refine e_seq ?_
    refine c_seq ?_
    refine c_seq ?_
    refine c_region ?_
    refine o_val (v := .bool false) (x_move rfl) ?_
    refine o_val (v := .bool true) (x_not (b := false) rfl) ?_
    refine o_val (v := .bool true) (x_move rfl) ?_
    refine o_off ?_
    refine o_off ?_
    refine o_off ?_
    refine o_val (v := .bool true) (x_pickt rfl rfl) ?_
    refine o_val (v := .bool true) (x_move rfl) ?_
    refine o_off ?_
    refine o_off ?_
    refine o_off ?_
    refine o_val (v := .bool true) (x_pickt rfl rfl) ?_
    refine o_nil ?_
    refine e_seq ?_
    refine c_ift rfl ?_
    refine c_seq ?_
    refine c_region ?_
    refine o_val (v := .bool true) (x_move rfl) ?_
    refine o_val (v := .bool true) (x_assign rfl) ?_
    refine o_nil ?_
    refine e_seq ?_
    refine c_ret (e_ret (post_ret (res_1 (v := .bool true) rfl rfl) ?_))
    exact ⟨rfl, hF.same⟩
end Go.Scarf
