/- A part of the proof. -/
import Derived.Test.YtehmojdjpmliaaaGreatDoorX2
import Derived.Test.YtehmojdjpmliaaaGreatDoorP8
set_option linter.all false
namespace Go.Scarf
open Go.RowKit Go.Proofs
theorem comp_right {x : Tree} (h : rightB x = true) : compE x = 0 := by rw [compE, if_pos h]
theorem comp_zero (x : Tree) : decide (compE x = 0) = rightB x := by
  unfold compE
  cases rightB x <;> rfl
theorem err_right {x : Tree} (h : ¬ compE (sortedV x) ≠ 0) : rightB x = true := by have h1 := comp_err h; rwa [right_sorted] at h1
set_option maxHeartbeats 4000000 in
set_option maxRecDepth 10000 in
theorem printApart_w (w0 : World) (hG : Gl w0) (x : Tree) (cx : List Value) (rx : Rep (fun _ => True) w0 (treeD x) cx) (y : Tree) (cy : List Value) (ry : Rep (fun _ => True) w0 (treeD y) cy) : Calls Tryz.prog 12 #[.agg cx.toArray, .agg cy.toArray] w0 (Ret fun v w' => v = .bool true ∧ Same [] w0 w') := by
  have hlcx : cx.length = 4 := rx.length.trans (size_treeD x)
  have hlcy : cy.length = 4 := ry.length.trans (size_treeD y)
  have hocx := rx.one_
  have hocy := ry.one_
  refine calls_start Tryz.func12 rfl Tryz.ntmps12 (Nat.le_of_ble_eq_true rfl) (args_2 _ _) ?_
  have hF := FR.start w0 []
  refine c_seq ?_
  refine c_region ?_
  refine o_box (v := .agg (List.toArray cx)) (cs := (List.toArray cx)) hF rfl rfl ?_
  clear hF; intro b1 w hb1 hF hE
  clear hE
  refine o_box (v := .agg (List.toArray cy)) (cs := (List.toArray cy)) hF rfl rfl ?_
  clear hF; intro b2 w hb2 hF hE
  clear hE
  refine o_val (v := .bool false) (x_assign rfl) ?_
  refine o_nil ?_
  refine e_seq ?_
  refine c_seq ?_
  refine c_region ?_
  refine o_call (small8_c _ (hG.ext hF.same)) (x_call0 en_13 rfl) ?_
  rintro _ w ⟨rfl, hE⟩
  replace hF := hF.ext hE
  clear hE
  refine o_val (v := .bool true) (x_assign rfl) ?_
  refine o_nil ?_
  refine e_seq ?_
  refine c_seq ?_
  refine c_region ?_
  refine o_val (v := .agg (List.toArray cx)) (x_loadS (l := cx) Tryz.isAgg25 Tryz.sizeOf25 rfl hlcx (hF.cellsAll 1 rfl)) ?_
  refine o_call (few_v x 300 (by omega) (by omega) _ _ cx (hF.rep rx)) (x_call2 en_14 rfl rfl rfl) ?_
  rintro _ w ⟨rfl, hE⟩
  replace hF := hF.ext hE
  clear hE
  refine o_val (v := .bool (fewB x 300)) (x_move rfl) ?_
  refine o_split (d := 18) (b := fewB x 300) rfl (fun hg0 => ?_) (fun hg0 => ?_)
  ·
    refine o_val (v := .agg (List.toArray cy)) (x_loadS (l := cy) Tryz.isAgg25 Tryz.sizeOf25 rfl hlcy (hF.cellsAll 0 rfl)) ?_
    refine o_call (few_v y 300 (by omega) (by omega) _ _ cy (hF.rep ry)) (x_call2 en_14 rfl rfl rfl) ?_
    rintro _ w ⟨rfl, hE⟩
    replace hF := hF.ext hE
    clear hE
    refine o_val (v := .bool (fewB y 300)) (x_pickt rfl rfl) ?_
    refine o_val (v := .bool (fewB y 300)) (x_assign rfl) ?_
    refine o_nil ?_
    refine e_seq ?_
    refine c_seq ?_
    refine c_seq ?_
    refine c_region ?_
    refine o_val (v := .bool (fewB y 300)) (x_move rfl) ?_
    refine o_val (v := .bool (!(fewB y 300))) (x_not rfl) ?_
    refine o_nil ?_
    refine e_seq ?_
    refine c_split (d := 23) (b := !(fewB y 300)) rfl (fun hc0 => ?_) (fun hc0 => ?_)
    ·
      refine c_ift rfl ?_
      refine c_seq ?_
      refine c_region ?_
      refine o_val (v := .bool true) (x_move rfl) ?_
      refine o_val (v := .bool true) (x_assign rfl) ?_
      refine o_nil ?_
      refine e_seq ?_
      refine c_ret (e_ret (post_ret (res_1 (v := .bool true) rfl rfl) ?_))
      exact ⟨rfl, hF.same⟩
    ·
      refine c_iff rfl ?_
      refine c_skip ?_
      refine e_seq ?_
      refine c_seq ?_
      refine c_region ?_
      have fx_ : fewB x 300 = true := by simp_all
      obtain ⟨sx, dx, tx⟩ := fewB_ok (by omega) fx_
      have mx := short_max x tx
      have kx := okT_max x (by omega)
      have fy_ : fewB y 300 = true := by simp_all
      obtain ⟨sy, dy, ty⟩ := fewB_ok (by omega) fy_
      have my := short_max y ty
      have ky := okT_max y (by omega)
      refine o_val (v := .agg (List.toArray cx)) (x_loadS (l := cx) Tryz.isAgg25 Tryz.sizeOf25 rfl hlcx (hF.cellsAll 1 rfl)) ?_
      refine o_call (canon_c x _ _ cx (hF.rep rx) (hG.ext hF.same) (by omega) (by omega)) (x_call1 en_17 rfl rfl) ?_
      rintro _ w ⟨rfl, hE⟩
      replace hF := hF.ext hE
      clear hE
      refine o_val (v := .tuple #[.string (bs (compS (sortedV x))), .int .i64 (compE (sortedV x))]) (x_move rfl) ?_
      refine o_val (v := .string (bs (compS (sortedV x)))) (x_extract rfl rfl) ?_
      refine o_val (v := .int .i64 (compE (sortedV x))) (x_extract rfl rfl) ?_
      refine o_val (v := .string (bs (compS (sortedV x)))) (x_assign rfl) ?_
      refine o_val (v := .int .i64 (compE (sortedV x))) (x_assign rfl) ?_
      refine o_nil ?_
      refine e_seq ?_
      refine c_seq ?_
      refine c_region ?_
      refine o_val (v := .agg (List.toArray cy)) (x_loadS (l := cy) Tryz.isAgg25 Tryz.sizeOf25 rfl hlcy (hF.cellsAll 0 rfl)) ?_
      refine o_call (canon_c y _ _ cy (hF.rep ry) (hG.ext hF.same) (by omega) (by omega)) (x_call1 en_17 rfl rfl) ?_
      rintro _ w ⟨rfl, hE⟩
      replace hF := hF.ext hE
      clear hE
      refine o_val (v := .tuple #[.string (bs (compS (sortedV y))), .int .i64 (compE (sortedV y))]) (x_move rfl) ?_
      refine o_val (v := .string (bs (compS (sortedV y)))) (x_extract rfl rfl) ?_
      refine o_val (v := .int .i64 (compE (sortedV y))) (x_extract rfl rfl) ?_
      refine o_val (v := .string (bs (compS (sortedV y)))) (x_assign rfl) ?_
      refine o_val (v := .int .i64 (compE (sortedV y))) (x_assign rfl) ?_
      refine o_nil ?_
      refine e_seq ?_
      refine c_seq ?_
      refine c_region ?_
      refine o_val (v := .agg (List.toArray cx)) (x_loadS (l := cx) Tryz.isAgg25 Tryz.sizeOf25 rfl hlcx (hF.cellsAll 1 rfl)) ?_
      refine o_call (comp_c x _ _ cx (hF.rep rx) (hG.ext hF.same) (by omega) (by omega)) (x_call1 en_16 rfl rfl) ?_
      rintro _ w ⟨rfl, hE⟩
      replace hF := hF.ext hE
      clear hE
      refine o_val (v := .tuple #[.string (bs (compS x)), .int .i64 (compE x)]) (x_move rfl) ?_
      refine o_val (v := .string (bs (compS x))) (x_extract rfl rfl) ?_
      refine o_val (v := .int .i64 (compE x)) (x_extract rfl rfl) ?_
      refine o_val (v := .string (bs (compS x))) (x_assign rfl) ?_
      refine o_val (v := .int .i64 (compE x)) (x_assign rfl) ?_
      refine o_nil ?_
      refine e_seq ?_
      refine c_seq ?_
      refine c_region ?_
      refine o_val (v := .agg (List.toArray cy)) (x_loadS (l := cy) Tryz.isAgg25 Tryz.sizeOf25 rfl hlcy (hF.cellsAll 0 rfl)) ?_
      refine o_call (comp_c y _ _ cy (hF.rep ry) (hG.ext hF.same) (by omega) (by omega)) (x_call1 en_16 rfl rfl) ?_
      rintro _ w ⟨rfl, hE⟩
      replace hF := hF.ext hE
      clear hE
      refine o_val (v := .tuple #[.string (bs (compS y)), .int .i64 (compE y)]) (x_move rfl) ?_
      refine o_val (v := .string (bs (compS y))) (x_extract rfl rfl) ?_
      refine o_val (v := .int .i64 (compE y)) (x_extract rfl rfl) ?_
      refine o_val (v := .string (bs (compS y))) (x_assign rfl) ?_
      refine o_val (v := .int .i64 (compE y)) (x_assign rfl) ?_
      refine o_nil ?_
      refine e_seq ?_
      refine c_seq ?_
      refine c_seq ?_
      refine c_region ?_
      refine o_val (v := .int .i64 (compE (sortedV x))) (x_move rfl) ?_
      refine o_val (v := .bool (decide ((compE (sortedV x) : Int) = (0 : Int)))) (x_eql rfl rfl) ?_
      refine o_val (v := .agg (List.toArray cx)) (x_loadS (l := cx) Tryz.isAgg25 Tryz.sizeOf25 rfl hlcx (hF.cellsAll 1 rfl)) ?_
      refine o_call (right_v x (by omega) _ _ cx (hF.rep rx) kx (hG.ext hF.same)) (x_call1 en_31 rfl rfl) ?_
      rintro _ w ⟨rfl, hE⟩
      replace hF := hF.ext hE
      clear hE
      refine o_val (v := .bool false) (run_boolL (x_neqb Tryz.underlying4 rfl rfl) (by rw [comp_zero, right_sorted]; exact bne_self_eq_false _)) ?_
      refine o_val (v := .bool false) (x_move rfl) ?_
      refine o_val (v := .int .i64 (compE x)) (x_move rfl) ?_
      refine o_val (v := .bool (decide ((compE x : Int) = (0 : Int)))) (x_eql rfl rfl) ?_
      refine o_val (v := .agg (List.toArray cx)) (x_loadS (l := cx) Tryz.isAgg25 Tryz.sizeOf25 rfl hlcx (hF.cellsAll 1 rfl)) ?_
      refine o_call (right_v x (by omega) _ _ cx (hF.rep rx) kx (hG.ext hF.same)) (x_call1 en_31 rfl rfl) ?_
      rintro _ w ⟨rfl, hE⟩
      replace hF := hF.ext hE
      clear hE
      refine o_val (v := .bool false) (run_boolL (x_neqb Tryz.underlying4 rfl rfl) (by rw [comp_zero]; exact bne_self_eq_false _)) ?_
      refine o_val (v := .bool false) (x_pickf rfl rfl) ?_
      refine o_nil ?_
      refine e_seq ?_
      refine c_iff rfl ?_
      refine c_skip ?_
      refine e_seq ?_
      refine c_seq ?_
      refine c_seq ?_
      refine c_region ?_
      refine o_val (v := .int .i64 (compE (sortedV x))) (x_move rfl) ?_
      refine o_val (v := .bool (decide ((compE (sortedV x) : Int) ≠ (0 : Int)))) (x_neq rfl rfl) ?_
      refine o_val (v := .bool (decide ((compE (sortedV x) : Int) ≠ (0 : Int)))) (x_move rfl) ?_
      refine o_splitd (d := 59) (p := (compE (sortedV x) : Int) ≠ (0 : Int)) rfl (fun hg1 => ?_) (fun hg1 => ?_)
      ·
        refine o_off ?_
        refine o_off ?_
        refine o_val (v := .bool true) (x_pickt rfl rfl) ?_
        refine o_nil ?_
        refine e_seq ?_
        refine c_ift rfl ?_
        refine c_seq ?_
        refine c_region ?_
        refine o_val (v := .bool true) (x_move rfl) ?_
        refine o_val (v := .bool true) (x_assign rfl) ?_
        refine o_nil ?_
        refine e_seq ?_
        refine c_ret (e_ret (post_ret (res_1 (v := .bool true) rfl rfl) ?_))
        exact ⟨rfl, hF.same⟩
      ·
        refine o_val (v := .int .i64 (compE (sortedV y))) (x_move rfl) ?_
        refine o_val (v := .bool (decide ((compE (sortedV y) : Int) ≠ (0 : Int)))) (x_neq rfl rfl) ?_
        refine o_val (v := .bool (decide ((compE (sortedV y) : Int) ≠ (0 : Int)))) (x_pickf rfl rfl) ?_
        refine o_nil ?_
        refine e_seq ?_
        refine c_splitd (d := 62) (p := (compE (sortedV y) : Int) ≠ (0 : Int)) rfl (fun hc2 => ?_) (fun hc2 => ?_)
        ·
          refine c_ift rfl ?_
          refine c_seq ?_
          refine c_region ?_
          refine o_val (v := .bool true) (x_move rfl) ?_
          refine o_val (v := .bool true) (x_assign rfl) ?_
          refine o_nil ?_
          refine e_seq ?_
          refine c_ret (e_ret (post_ret (res_1 (v := .bool true) rfl rfl) ?_))
          exact ⟨rfl, hF.same⟩
        ·
          refine c_iff rfl ?_
          refine c_skip ?_
          refine e_seq ?_
          refine c_seq ?_
          refine c_region ?_
          have ax : rightB x = true := err_right (by assumption)
          have ay : rightB y = true := err_right (by assumption)
          refine o_val (v := .bool true) (x_move rfl) ?_
          refine o_val (v := .bool true) (x_move rfl) ?_
          refine o_val (v := .int .i64 (compE y)) (x_move rfl) ?_
          refine o_val (v := .bool true) (run_true (x_eql rfl rfl) (comp_right ay)) ?_
          refine o_val (v := .bool true) (x_pickt rfl rfl) ?_
          refine o_val (v := .bool true) (x_move rfl) ?_
          refine o_val (v := .string (bs (compS (sortedV x)))) (x_move rfl) ?_
          refine o_val (v := .string (bs (compS (sortedV y)))) (x_move rfl) ?_
          refine o_val (v := .bool (decide ((compS (sortedV x) : Str) = compS (sortedV y)))) (x_eqls rfl rfl) ?_
          refine o_val (v := .agg (List.toArray cx)) (x_loadS (l := cx) Tryz.isAgg25 Tryz.sizeOf25 rfl hlcx (hF.cellsAll 1 rfl)) ?_
          refine o_val (v := .agg (List.toArray cy)) (x_loadS (l := cy) Tryz.isAgg25 Tryz.sizeOf25 rfl hlcy (hF.cellsAll 0 rfl)) ?_
          refine o_call (sameV_c x y (by omega) (by omega) _ _ _ cx cy (hF.rep rx) (hF.rep ry) kx ky (hG.ext hF.same)) (x_call2 en_42 rfl rfl rfl) ?_
          rintro _ w ⟨rfl, hE⟩
          replace hF := hF.ext hE
          clear hE
          refine o_val (v := .bool true) (run_boolL (x_eqlb Tryz.underlying4 rfl rfl) (by rw [canon_same ax ay]; exact beq_self_eq_true _)) ?_
          refine o_val (v := .bool true) (x_pickt rfl rfl) ?_
          refine o_val (v := .bool true) (x_move rfl) ?_
          refine o_val (v := .string (bs (compS x))) (x_move rfl) ?_
          refine o_val (v := .string (bs (compS y))) (x_move rfl) ?_
          refine o_val (v := .bool (decide ((compS x : Str) = compS y))) (x_eqls rfl rfl) ?_
          refine o_val (v := .agg (List.toArray cx)) (x_loadS (l := cx) Tryz.isAgg25 Tryz.sizeOf25 rfl hlcx (hF.cellsAll 1 rfl)) ?_
          refine o_val (v := .agg (List.toArray cy)) (x_loadS (l := cy) Tryz.isAgg25 Tryz.sizeOf25 rfl hlcy (hF.cellsAll 0 rfl)) ?_
          refine o_call (equal_c x y _ _ _ cx cy (hF.rep rx) (hF.rep ry)) (x_call2 en_22 rfl rfl rfl) ?_
          rintro _ w ⟨rfl, hE⟩
          replace hF := hF.ext hE
          clear hE
          refine o_val (v := .bool true) (run_boolL (x_eqlb Tryz.underlying4 rfl rfl) (by rw [comp_equal ax ay]; exact beq_self_eq_true _)) ?_
          refine o_val (v := .bool true) (x_pickt rfl rfl) ?_
          refine o_val (v := .bool true) (x_assign rfl) ?_
          refine o_nil ?_
          refine e_seq ?_
          refine c_ret (e_ret (post_ret (res_1 (v := .bool true) rfl rfl) ?_))
          exact ⟨rfl, hF.same⟩
  ·
    refine o_off ?_
    refine o_off ?_
    refine o_val (v := .bool false) (x_pickf rfl rfl) ?_
    refine o_val (v := .bool false) (x_assign rfl) ?_
    refine o_nil ?_
    refine e_seq ?_
    refine c_seq ?_
    refine c_seq ?_
    refine c_region ?_
    refine o_val (v := .bool false) (x_move rfl) ?_
    refine o_val (v := .bool true) (x_not (b := false) rfl) ?_
    refine o_nil ?_
    refine e_seq ?_
    refine c_ift rfl ?_
    refine c_seq ?_
    refine c_region ?_
    refine o_val (v := .bool true) (x_move rfl) ?_
    refine o_val (v := .bool true) (x_assign rfl) ?_
    refine o_nil ?_
    refine e_seq ?_
    refine c_ret (e_ret (post_ret (res_1 (v := .bool true) rfl rfl) ?_))
    exact ⟨rfl, hF.same⟩
end Go.Scarf
