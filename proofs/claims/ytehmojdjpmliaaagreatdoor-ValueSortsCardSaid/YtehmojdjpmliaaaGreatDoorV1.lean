/- A part of the proof. -/
import Derived.Test.YtehmojdjpmliaaaGreatDoorW20
import Derived.Test.YtehmojdjpmliaaaGreatDoorP1
set_option linter.all false
namespace Go.Scarf
open Go.RowKit Go.Proofs
theorem run_bool {P : Program} {ρ : Operand → Value} {o : Oper} {w w' : World} {b c : Bool} (h : (execOp ρ o).run P w = .ok (.value (.bool b)) w') (hb : b = c) : (execOp ρ o).run P w = .ok (.value (.bool c)) w' := by rw [h, hb]
set_option maxHeartbeats 4000000 in
set_option maxRecDepth 10000 in
theorem valueOrders_w (w0 : World) (hG : Gl w0) (x : Tree) (cx : List Value) (rx : Rep (fun _ => True) w0 (treeD x) cx) (y : Tree) (cy : List Value) (ry : Rep (fun _ => True) w0 (treeD y) cy) (z : Tree) (cz : List Value) (rz : Rep (fun _ => True) w0 (treeD z) cz) : Calls Tryz.prog 8 #[.agg cx.toArray, .agg cy.toArray, .agg cz.toArray] w0 (Ret fun v w' => v = .bool true ∧ Same [] w0 w') := by
  have hlcx : cx.length = 4 := rx.length.trans (size_treeD x)
  have hlcy : cy.length = 4 := ry.length.trans (size_treeD y)
  have hlcz : cz.length = 4 := rz.length.trans (size_treeD z)
  have hocx := rx.one_
  have hocy := ry.one_
  have hocz := rz.one_
  refine calls_start Tryz.func8 rfl Tryz.ntmps8 (Nat.le_of_ble_eq_true rfl) (args_3 _ _ _) ?_
  have hF := FR.start w0 []
  refine c_seq ?_
  refine c_region ?_
  refine o_box (v := .agg (List.toArray cx)) (cs := (List.toArray cx)) hF rfl rfl ?_
  clear hF; intro b1 w hb1 hF hE
  clear hE
  refine o_box (v := .agg (List.toArray cy)) (cs := (List.toArray cy)) hF rfl rfl ?_
  clear hF; intro b2 w hb2 hF hE
  clear hE
  refine o_box (v := .agg (List.toArray cz)) (cs := (List.toArray cz)) hF rfl rfl ?_
  clear hF; intro b3 w hb3 hF hE
  clear hE
  refine o_val (v := .bool false) (x_assign rfl) ?_
  refine o_nil ?_
  refine e_seq ?_
  refine c_seq ?_
  refine c_region ?_
  refine o_call (small_c _ (hG.ext hF.same)) (x_call0 en_27 rfl) ?_
  rintro _ w ⟨rfl, hE⟩
  replace hF := hF.ext hE
  clear hE
  refine o_val (v := .bool true) (x_assign rfl) ?_
  refine o_nil ?_
  refine e_seq ?_
  refine c_seq ?_
  refine c_region ?_
  refine o_val (v := .agg (List.toArray cx)) (x_loadS (l := cx) Tryz.isAgg25 Tryz.sizeOf25 rfl hlcx (hF.cellsAll 2 rfl)) ?_
  refine o_call (few_v x 200 (by omega) (by omega) _ _ cx (hF.rep rx)) (x_call2 en_14 rfl rfl rfl) ?_
  rintro _ w ⟨rfl, hE⟩
  replace hF := hF.ext hE
  clear hE
  refine o_val (v := .bool (fewB x 200)) (x_move rfl) ?_
  refine o_split (d := 15) (b := fewB x 200) rfl (fun hg0 => ?_) (fun hg0 => ?_)
  ·
    refine o_val (v := .agg (List.toArray cy)) (x_loadS (l := cy) Tryz.isAgg25 Tryz.sizeOf25 rfl hlcy (hF.cellsAll 1 rfl)) ?_
    refine o_call (few_v y 200 (by omega) (by omega) _ _ cy (hF.rep ry)) (x_call2 en_14 rfl rfl rfl) ?_
    rintro _ w ⟨rfl, hE⟩
    replace hF := hF.ext hE
    clear hE
    refine o_val (v := .bool (fewB y 200)) (x_pickt rfl rfl) ?_
    refine o_val (v := .bool (fewB y 200)) (x_move rfl) ?_
    refine o_split (d := 19) (b := fewB y 200) rfl (fun hg1 => ?_) (fun hg1 => ?_)
    ·
      refine o_val (v := .agg (List.toArray cz)) (x_loadS (l := cz) Tryz.isAgg25 Tryz.sizeOf25 rfl hlcz (hF.cellsAll 0 rfl)) ?_
      refine o_call (few_v z 200 (by omega) (by omega) _ _ cz (hF.rep rz)) (x_call2 en_14 rfl rfl rfl) ?_
      rintro _ w ⟨rfl, hE⟩
      replace hF := hF.ext hE
      clear hE
      refine o_val (v := .bool (fewB z 200)) (x_pickt rfl rfl) ?_
      refine o_val (v := .bool (fewB z 200)) (x_assign rfl) ?_
      refine o_nil ?_
      refine e_seq ?_
      refine c_seq ?_
      refine c_seq ?_
      refine c_region ?_
      refine o_val (v := .bool (fewB z 200)) (x_move rfl) ?_
      refine o_val (v := .bool (!(fewB z 200))) (x_not rfl) ?_
      refine o_nil ?_
      refine e_seq ?_
      refine c_split (d := 24) (b := !(fewB z 200)) rfl (fun hc0 => ?_) (fun hc0 => ?_)
      ·
        refine c_ift rfl ?_
        refine c_seq ?_
        refine c_region ?_
        refine o_val (v := .bool true) (x_move rfl) ?_
        refine o_val (v := .bool true) (x_assign rfl) ?_
        refine o_nil ?_
        refine e_seq ?_
        refine c_ret (e_ret (post_ret (res_1 (v := .bool true) rfl rfl) ?_))
        exact ⟨rfl, hF.same⟩
      ·
        refine c_iff rfl ?_
        refine c_skip ?_
        refine e_seq ?_
        refine c_seq ?_
        refine c_region ?_
        have fx : fewB x 200 = true := by simp_all
        have fy : fewB y 200 = true := by simp_all
        have fz : fewB z 200 = true := by simp_all
        obtain ⟨sx, -, tx⟩ := fewB_ok (by omega) fx
        obtain ⟨sy, -, ty⟩ := fewB_ok (by omega) fy
        obtain ⟨sz, -, tz⟩ := fewB_ok (by omega) fz
        have kx := short_ok x tx
        have ky := short_ok y ty
        have kz := short_ok z tz
        have b1 := compareV_rng x y
        have b2 := compareV_anti x y
        have b3 := compareV_self x
        have b4 := compareV_tr x y z
        refine o_val (v := .agg (List.toArray cx)) (x_loadS (l := cx) Tryz.isAgg25 Tryz.sizeOf25 rfl hlcx (hF.cellsAll 2 rfl)) ?_
        refine o_val (v := .agg (List.toArray cy)) (x_loadS (l := cy) Tryz.isAgg25 Tryz.sizeOf25 rfl hlcy (hF.cellsAll 1 rfl)) ?_
        refine o_call (compareV_c x y (by omega) (by omega) _ _ _ cx cy (hF.rep rx) (hF.rep ry) kx ky (hG.ext hF.same)) (x_call2 en_41 rfl rfl rfl) ?_
        rintro _ w ⟨rfl, hE⟩
        replace hF := hF.ext hE
        clear hE
        refine o_val (v := .int .i64 (compareV x y)) (x_assign rfl) ?_
        refine o_nil ?_
        refine e_seq ?_
        refine c_seq ?_
        refine c_region ?_
        refine o_val (v := .agg (List.toArray cy)) (x_loadS (l := cy) Tryz.isAgg25 Tryz.sizeOf25 rfl hlcy (hF.cellsAll 1 rfl)) ?_
        refine o_val (v := .agg (List.toArray cz)) (x_loadS (l := cz) Tryz.isAgg25 Tryz.sizeOf25 rfl hlcz (hF.cellsAll 0 rfl)) ?_
        refine o_call (compareV_c y z (by omega) (by omega) _ _ _ cy cz (hF.rep ry) (hF.rep rz) ky kz (hG.ext hF.same)) (x_call2 en_41 rfl rfl rfl) ?_
        rintro _ w ⟨rfl, hE⟩
        replace hF := hF.ext hE
        clear hE
        refine o_val (v := .int .i64 (compareV y z)) (x_assign rfl) ?_
        refine o_nil ?_
        refine e_seq ?_
        refine c_seq ?_
        refine c_region ?_
        refine o_val (v := .agg (List.toArray cx)) (x_loadS (l := cx) Tryz.isAgg25 Tryz.sizeOf25 rfl hlcx (hF.cellsAll 2 rfl)) ?_
        refine o_val (v := .agg (List.toArray cz)) (x_loadS (l := cz) Tryz.isAgg25 Tryz.sizeOf25 rfl hlcz (hF.cellsAll 0 rfl)) ?_
        refine o_call (compareV_c x z (by omega) (by omega) _ _ _ cx cz (hF.rep rx) (hF.rep rz) kx kz (hG.ext hF.same)) (x_call2 en_41 rfl rfl rfl) ?_
        rintro _ w ⟨rfl, hE⟩
        replace hF := hF.ext hE
        clear hE
        refine o_val (v := .int .i64 (compareV x z)) (x_assign rfl) ?_
        refine o_nil ?_
        refine e_seq ?_
        refine c_seq ?_
        refine c_seq ?_
        refine c_region ?_
        refine o_val (v := .int .i64 (compareV x y)) (x_move rfl) ?_
        refine o_val (v := .bool false) (run_false (x_lss rfl rfl) (by omega)) ?_
        refine o_val (v := .bool false) (x_move rfl) ?_
        refine o_val (v := .int .i64 (compareV x y)) (x_move rfl) ?_
        refine o_val (v := .bool false) (run_false (x_gtr rfl rfl) (by omega)) ?_
        refine o_val (v := .bool false) (x_pickf rfl rfl) ?_
        refine o_val (v := .bool false) (x_move rfl) ?_
        refine o_val (v := .agg (List.toArray cy)) (x_loadS (l := cy) Tryz.isAgg25 Tryz.sizeOf25 rfl hlcy (hF.cellsAll 1 rfl)) ?_
        refine o_val (v := .agg (List.toArray cx)) (x_loadS (l := cx) Tryz.isAgg25 Tryz.sizeOf25 rfl hlcx (hF.cellsAll 2 rfl)) ?_
        refine o_call (compareV_c y x (by omega) (by omega) _ _ _ cy cx (hF.rep ry) (hF.rep rx) ky kx (hG.ext hF.same)) (x_call2 en_41 rfl rfl rfl) ?_
        rintro _ w ⟨rfl, hE⟩
        replace hF := hF.ext hE
        clear hE
        refine o_val (v := .int .i64 (compareV x y)) (x_move rfl) ?_
        refine o_val (v := .int .i64 (-(compareV x y : Int))) (x_neg rfl (wrap_to (by omega) (by omega) (by omega))) ?_
        refine o_val (v := .bool false) (run_false (x_neq rfl rfl) (by omega)) ?_
        refine o_val (v := .bool false) (x_pickf rfl rfl) ?_
        refine o_val (v := .bool false) (x_move rfl) ?_
        refine o_val (v := .agg (List.toArray cx)) (x_loadS (l := cx) Tryz.isAgg25 Tryz.sizeOf25 rfl hlcx (hF.cellsAll 2 rfl)) ?_
        refine o_val (v := .agg (List.toArray cx)) (x_loadS (l := cx) Tryz.isAgg25 Tryz.sizeOf25 rfl hlcx (hF.cellsAll 2 rfl)) ?_
        refine o_call (compareV_c x x (by omega) (by omega) _ _ _ cx cx (hF.rep rx) (hF.rep rx) kx kx (hG.ext hF.same)) (x_call2 en_41 rfl rfl rfl) ?_
        rintro _ w ⟨rfl, hE⟩
        replace hF := hF.ext hE
        clear hE
        refine o_val (v := .bool false) (run_false (x_neq rfl rfl) (by omega)) ?_
        refine o_val (v := .bool false) (x_pickf rfl rfl) ?_
        refine o_val (v := .bool false) (x_move rfl) ?_
        refine o_val (v := .int .i64 (compareV x y)) (x_move rfl) ?_
        refine o_val (v := .bool (decide ((compareV x y : Int) ≤ (0 : Int)))) (x_leq rfl rfl) ?_
        refine o_val (v := .bool (decide ((compareV x y : Int) ≤ (0 : Int)))) (x_move rfl) ?_
        refine o_splitd (d := 58) (p := (compareV x y : Int) ≤ (0 : Int)) rfl (fun hg2 => ?_) (fun hg2 => ?_)
        ·
          refine o_val (v := .int .i64 (compareV y z)) (x_move rfl) ?_
          refine o_val (v := .bool (decide ((compareV y z : Int) ≤ (0 : Int)))) (x_leq rfl rfl) ?_
          refine o_val (v := .bool (decide ((compareV y z : Int) ≤ (0 : Int)))) (x_pickt rfl rfl) ?_
          refine o_val (v := .bool (decide ((compareV y z : Int) ≤ (0 : Int)))) (x_move rfl) ?_
          refine o_splitd (d := 62) (p := (compareV y z : Int) ≤ (0 : Int)) rfl (fun hg3 => ?_) (fun hg3 => ?_)
          ·
            refine o_val (v := .int .i64 (compareV x z)) (x_move rfl) ?_
            refine o_val (v := .bool false) (run_false (x_gtr rfl rfl) (by omega)) ?_
            refine o_val (v := .bool false) (x_pickt rfl rfl) ?_
            refine o_val (v := .bool false) (x_pickf rfl rfl) ?_
            refine o_nil ?_
            refine e_seq ?_
            refine c_iff rfl ?_
            refine c_skip ?_
            refine e_seq ?_
            refine c_seq ?_
            refine c_region ?_
            refine o_val (v := .bool true) (x_move rfl) ?_
            refine o_val (v := .bool true) (x_move rfl) ?_
            refine o_val (v := .agg (List.toArray cx)) (x_loadS (l := cx) Tryz.isAgg25 Tryz.sizeOf25 rfl hlcx (hF.cellsAll 2 rfl)) ?_
            refine o_call (open_v x (by omega) _ _ cx (hF.rep rx) kx (hG.ext hF.same)) (x_call1 en_33 rfl rfl) ?_
            rintro _ w ⟨rfl, hE⟩
            replace hF := hF.ext hE
            clear hE
            refine o_val (v := .bool (!(openB x))) (x_not rfl) ?_
            refine o_val (v := .bool (!(openB x))) (x_move rfl) ?_
            refine o_split (d := 72) (b := !(openB x)) rfl (fun hg4 => ?_) (fun hg4 => ?_)
            ·
              refine o_off ?_
              refine o_off ?_
              refine o_off ?_
              refine o_val (v := .bool true) (x_pickt rfl rfl) ?_
              refine o_val (v := .bool true) (x_move rfl) ?_
              refine o_off ?_
              refine o_off ?_
              refine o_off ?_
              refine o_off ?_
              refine o_off ?_
              refine o_off ?_
              refine o_val (v := .bool true) (x_pickt rfl rfl) ?_
              refine o_val (v := .bool true) (x_pickt rfl rfl) ?_
              refine o_val (v := .bool true) (x_assign rfl) ?_
              refine o_nil ?_
              refine e_seq ?_
              refine c_ret (e_ret (post_ret (res_1 (v := .bool true) rfl rfl) ?_))
              exact ⟨rfl, hF.same⟩
            ·
              refine o_val (v := .agg (List.toArray cy)) (x_loadS (l := cy) Tryz.isAgg25 Tryz.sizeOf25 rfl hlcy (hF.cellsAll 1 rfl)) ?_
              refine o_call (open_v y (by omega) _ _ cy (hF.rep ry) ky (hG.ext hF.same)) (x_call1 en_33 rfl rfl) ?_
              rintro _ w ⟨rfl, hE⟩
              replace hF := hF.ext hE
              clear hE
              refine o_val (v := .bool (!(openB y))) (x_not rfl) ?_
              refine o_val (v := .bool (!(openB y))) (x_pickf rfl rfl) ?_
              refine o_val (v := .bool (!(openB y))) (x_move rfl) ?_
              refine o_split (d := 77) (b := !(openB y)) rfl (fun hg5 => ?_) (fun hg5 => ?_)
              ·
                refine o_off ?_
                refine o_off ?_
                refine o_off ?_
                refine o_off ?_
                refine o_off ?_
                refine o_off ?_
                refine o_val (v := .bool true) (x_pickt rfl rfl) ?_
                refine o_val (v := .bool true) (x_pickt rfl rfl) ?_
                refine o_val (v := .bool true) (x_assign rfl) ?_
                refine o_nil ?_
                refine e_seq ?_
                refine c_ret (e_ret (post_ret (res_1 (v := .bool true) rfl rfl) ?_))
                exact ⟨rfl, hF.same⟩
              ·
                refine o_val (v := .int .i64 (compareV x y)) (x_move rfl) ?_
                refine o_val (v := .bool (decide ((compareV x y : Int) = (0 : Int)))) (x_eql rfl rfl) ?_
                refine o_val (v := .agg (List.toArray cx)) (x_loadS (l := cx) Tryz.isAgg25 Tryz.sizeOf25 rfl hlcx (hF.cellsAll 2 rfl)) ?_
                refine o_val (v := .agg (List.toArray cy)) (x_loadS (l := cy) Tryz.isAgg25 Tryz.sizeOf25 rfl hlcy (hF.cellsAll 1 rfl)) ?_
                refine o_call (sameV_c x y (by omega) (by omega) _ _ _ cx cy (hF.rep rx) (hF.rep ry) kx ky (hG.ext hF.same)) (x_call2 en_42 rfl rfl rfl) ?_
                rintro _ w ⟨rfl, hE⟩
                replace hF := hF.ext hE
                clear hE
                refine o_val (v := .bool true) (run_bool (x_eqlb Tryz.underlying4 rfl rfl) (by rw [compareV_same (by simp_all) (by simp_all)]; exact beq_self_eq_true _)) ?_
                refine o_val (v := .bool true) (x_pickf rfl rfl) ?_
                refine o_val (v := .bool true) (x_pickt rfl rfl) ?_
                refine o_val (v := .bool true) (x_assign rfl) ?_
                refine o_nil ?_
                refine e_seq ?_
                refine c_ret (e_ret (post_ret (res_1 (v := .bool true) rfl rfl) ?_))
                exact ⟨rfl, hF.same⟩
          ·
            refine o_off ?_
            refine o_off ?_
            refine o_val (v := .bool false) (x_pickf rfl rfl) ?_
            refine o_val (v := .bool false) (x_pickf rfl rfl) ?_
            refine o_nil ?_
            refine e_seq ?_
            refine c_iff rfl ?_
            refine c_skip ?_
            refine e_seq ?_
            refine c_seq ?_
            refine c_region ?_
            refine o_val (v := .bool true) (x_move rfl) ?_
            refine o_val (v := .bool true) (x_move rfl) ?_
            refine o_val (v := .agg (List.toArray cx)) (x_loadS (l := cx) Tryz.isAgg25 Tryz.sizeOf25 rfl hlcx (hF.cellsAll 2 rfl)) ?_
            refine o_call (open_v x (by omega) _ _ cx (hF.rep rx) kx (hG.ext hF.same)) (x_call1 en_33 rfl rfl) ?_
            rintro _ w ⟨rfl, hE⟩
            replace hF := hF.ext hE
            clear hE
            refine o_val (v := .bool (!(openB x))) (x_not rfl) ?_
            refine o_val (v := .bool (!(openB x))) (x_move rfl) ?_
            refine o_split (d := 72) (b := !(openB x)) rfl (fun hg6 => ?_) (fun hg6 => ?_)
            ·
              refine o_off ?_
              refine o_off ?_
              refine o_off ?_
              refine o_val (v := .bool true) (x_pickt rfl rfl) ?_
              refine o_val (v := .bool true) (x_move rfl) ?_
              refine o_off ?_
              refine o_off ?_
              refine o_off ?_
              refine o_off ?_
              refine o_off ?_
              refine o_off ?_
              refine o_val (v := .bool true) (x_pickt rfl rfl) ?_
              refine o_val (v := .bool true) (x_pickt rfl rfl) ?_
              refine o_val (v := .bool true) (x_assign rfl) ?_
              refine o_nil ?_
              refine e_seq ?_
              refine c_ret (e_ret (post_ret (res_1 (v := .bool true) rfl rfl) ?_))
              exact ⟨rfl, hF.same⟩
            ·
              refine o_val (v := .agg (List.toArray cy)) (x_loadS (l := cy) Tryz.isAgg25 Tryz.sizeOf25 rfl hlcy (hF.cellsAll 1 rfl)) ?_
              refine o_call (open_v y (by omega) _ _ cy (hF.rep ry) ky (hG.ext hF.same)) (x_call1 en_33 rfl rfl) ?_
              rintro _ w ⟨rfl, hE⟩
              replace hF := hF.ext hE
              clear hE
              refine o_val (v := .bool (!(openB y))) (x_not rfl) ?_
              refine o_val (v := .bool (!(openB y))) (x_pickf rfl rfl) ?_
              refine o_val (v := .bool (!(openB y))) (x_move rfl) ?_
              refine o_split (d := 77) (b := !(openB y)) rfl (fun hg7 => ?_) (fun hg7 => ?_)
              ·
                refine o_off ?_
                refine o_off ?_
                refine o_off ?_
                refine o_off ?_
                refine o_off ?_
                refine o_off ?_
                refine o_val (v := .bool true) (x_pickt rfl rfl) ?_
                refine o_val (v := .bool true) (x_pickt rfl rfl) ?_
                refine o_val (v := .bool true) (x_assign rfl) ?_
                refine o_nil ?_
                refine e_seq ?_
                refine c_ret (e_ret (post_ret (res_1 (v := .bool true) rfl rfl) ?_))
                exact ⟨rfl, hF.same⟩
              ·
                refine o_val (v := .int .i64 (compareV x y)) (x_move rfl) ?_
                refine o_val (v := .bool (decide ((compareV x y : Int) = (0 : Int)))) (x_eql rfl rfl) ?_
                refine o_val (v := .agg (List.toArray cx)) (x_loadS (l := cx) Tryz.isAgg25 Tryz.sizeOf25 rfl hlcx (hF.cellsAll 2 rfl)) ?_
                refine o_val (v := .agg (List.toArray cy)) (x_loadS (l := cy) Tryz.isAgg25 Tryz.sizeOf25 rfl hlcy (hF.cellsAll 1 rfl)) ?_
                refine o_call (sameV_c x y (by omega) (by omega) _ _ _ cx cy (hF.rep rx) (hF.rep ry) kx ky (hG.ext hF.same)) (x_call2 en_42 rfl rfl rfl) ?_
                rintro _ w ⟨rfl, hE⟩
                replace hF := hF.ext hE
                clear hE
                refine o_val (v := .bool true) (run_bool (x_eqlb Tryz.underlying4 rfl rfl) (by rw [compareV_same (by simp_all) (by simp_all)]; exact beq_self_eq_true _)) ?_
                refine o_val (v := .bool true) (x_pickf rfl rfl) ?_
                refine o_val (v := .bool true) (x_pickt rfl rfl) ?_
                refine o_val (v := .bool true) (x_assign rfl) ?_
                refine o_nil ?_
                refine e_seq ?_
                refine c_ret (e_ret (post_ret (res_1 (v := .bool true) rfl rfl) ?_))
                exact ⟨rfl, hF.same⟩
        ·
          refine o_off ?_
          refine o_off ?_
          refine o_val (v := .bool false) (x_pickf rfl rfl) ?_
          refine o_val (v := .bool false) (x_move rfl) ?_
          refine o_off ?_
          refine o_off ?_
          refine o_val (v := .bool false) (x_pickf rfl rfl) ?_
          refine o_val (v := .bool false) (x_pickf rfl rfl) ?_
          refine o_nil ?_
          refine e_seq ?_
          refine c_iff rfl ?_
          refine c_skip ?_
          refine e_seq ?_
          refine c_seq ?_
          refine c_region ?_
          refine o_val (v := .bool true) (x_move rfl) ?_
          refine o_val (v := .bool true) (x_move rfl) ?_
          refine o_val (v := .agg (List.toArray cx)) (x_loadS (l := cx) Tryz.isAgg25 Tryz.sizeOf25 rfl hlcx (hF.cellsAll 2 rfl)) ?_
          refine o_call (open_v x (by omega) _ _ cx (hF.rep rx) kx (hG.ext hF.same)) (x_call1 en_33 rfl rfl) ?_
          rintro _ w ⟨rfl, hE⟩
          replace hF := hF.ext hE
          clear hE
          refine o_val (v := .bool (!(openB x))) (x_not rfl) ?_
          refine o_val (v := .bool (!(openB x))) (x_move rfl) ?_
          refine o_split (d := 72) (b := !(openB x)) rfl (fun hg8 => ?_) (fun hg8 => ?_)
          ·
            refine o_off ?_
            refine o_off ?_
            refine o_off ?_
            refine o_val (v := .bool true) (x_pickt rfl rfl) ?_
            refine o_val (v := .bool true) (x_move rfl) ?_
            refine o_off ?_
            refine o_off ?_
            refine o_off ?_
            refine o_off ?_
            refine o_off ?_
            refine o_off ?_
            refine o_val (v := .bool true) (x_pickt rfl rfl) ?_
            refine o_val (v := .bool true) (x_pickt rfl rfl) ?_
            refine o_val (v := .bool true) (x_assign rfl) ?_
            refine o_nil ?_
            refine e_seq ?_
            refine c_ret (e_ret (post_ret (res_1 (v := .bool true) rfl rfl) ?_))
            exact ⟨rfl, hF.same⟩
          ·
            refine o_val (v := .agg (List.toArray cy)) (x_loadS (l := cy) Tryz.isAgg25 Tryz.sizeOf25 rfl hlcy (hF.cellsAll 1 rfl)) ?_
            refine o_call (open_v y (by omega) _ _ cy (hF.rep ry) ky (hG.ext hF.same)) (x_call1 en_33 rfl rfl) ?_
            rintro _ w ⟨rfl, hE⟩
            replace hF := hF.ext hE
            clear hE
            refine o_val (v := .bool (!(openB y))) (x_not rfl) ?_
            refine o_val (v := .bool (!(openB y))) (x_pickf rfl rfl) ?_
            refine o_val (v := .bool (!(openB y))) (x_move rfl) ?_
            refine o_split (d := 77) (b := !(openB y)) rfl (fun hg9 => ?_) (fun hg9 => ?_)
            ·
              refine o_off ?_
              refine o_off ?_
              refine o_off ?_
              refine o_off ?_
              refine o_off ?_
              refine o_off ?_
              refine o_val (v := .bool true) (x_pickt rfl rfl) ?_
              refine o_val (v := .bool true) (x_pickt rfl rfl) ?_
              refine o_val (v := .bool true) (x_assign rfl) ?_
              refine o_nil ?_
              refine e_seq ?_
              refine c_ret (e_ret (post_ret (res_1 (v := .bool true) rfl rfl) ?_))
              exact ⟨rfl, hF.same⟩
            ·
              refine o_val (v := .int .i64 (compareV x y)) (x_move rfl) ?_
              refine o_val (v := .bool (decide ((compareV x y : Int) = (0 : Int)))) (x_eql rfl rfl) ?_
              refine o_val (v := .agg (List.toArray cx)) (x_loadS (l := cx) Tryz.isAgg25 Tryz.sizeOf25 rfl hlcx (hF.cellsAll 2 rfl)) ?_
              refine o_val (v := .agg (List.toArray cy)) (x_loadS (l := cy) Tryz.isAgg25 Tryz.sizeOf25 rfl hlcy (hF.cellsAll 1 rfl)) ?_
              refine o_call (sameV_c x y (by omega) (by omega) _ _ _ cx cy (hF.rep rx) (hF.rep ry) kx ky (hG.ext hF.same)) (x_call2 en_42 rfl rfl rfl) ?_
              rintro _ w ⟨rfl, hE⟩
              replace hF := hF.ext hE
              clear hE
              refine o_val (v := .bool true) (run_bool (x_eqlb Tryz.underlying4 rfl rfl) (by rw [compareV_same (by simp_all) (by simp_all)]; exact beq_self_eq_true _)) ?_
              refine o_val (v := .bool true) (x_pickf rfl rfl) ?_
              refine o_val (v := .bool true) (x_pickt rfl rfl) ?_
              refine o_val (v := .bool true) (x_assign rfl) ?_
              refine o_nil ?_
              refine e_seq ?_
              refine c_ret (e_ret (post_ret (res_1 (v := .bool true) rfl rfl) ?_))
              exact ⟨rfl, hF.same⟩
    ·
      refine o_off ?_
      refine o_off ?_
      refine o_val (v := .bool false) (x_pickf rfl rfl) ?_
      refine o_val (v := .bool false) (x_assign rfl) ?_
      refine o_nil ?_
      refine e_seq ?_
      refine c_seq ?_
      refine c_seq ?_
      refine c_region ?_
      refine o_val (v := .bool false) (x_move rfl) ?_
      refine o_val (v := .bool true) (x_not (b := false) rfl) ?_
      refine o_nil ?_
      refine e_seq ?_
      refine c_ift rfl ?_
      refine c_seq ?_
      refine c_region ?_
      refine o_val (v := .bool true) (x_move rfl) ?_
      refine o_val (v := .bool true) (x_assign rfl) ?_
      refine o_nil ?_
      refine e_seq ?_
      refine c_ret (e_ret (post_ret (res_1 (v := .bool true) rfl rfl) ?_))
      exact ⟨rfl, hF.same⟩
  ·
    refine o_off ?_
    refine o_off ?_
    refine o_val (v := .bool false) (x_pickf rfl rfl) ?_
    refine o_val (v := .bool false) (x_move rfl) ?_
    refine o_off ?_
    refine o_off ?_
    refine o_val (v := .bool false) (x_pickf rfl rfl) ?_
    refine o_val (v := .bool false) (x_assign rfl) ?_
    refine o_nil ?_
    refine e_seq ?_
    refine c_seq ?_
    refine c_seq ?_
    refine c_region ?_
    refine o_val (v := .bool false) (x_move rfl) ?_
    refine o_val (v := .bool true) (x_not (b := false) rfl) ?_
    refine o_nil ?_
    refine e_seq ?_
    refine c_ift rfl ?_
    refine c_seq ?_
    refine c_region ?_
    refine o_val (v := .bool true) (x_move rfl) ?_
    refine o_val (v := .bool true) (x_assign rfl) ?_
    refine o_nil ?_
    refine e_seq ?_
    refine c_ret (e_ret (post_ret (res_1 (v := .bool true) rfl rfl) ?_))
    exact ⟨rfl, hF.same⟩
end Go.Scarf
