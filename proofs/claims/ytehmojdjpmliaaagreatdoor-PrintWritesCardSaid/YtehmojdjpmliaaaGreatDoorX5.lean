/- A part of the proof. -/
import Derived.Test.YtehmojdjpmliaaaGreatDoorX2
import Derived.Test.YtehmojdjpmliaaaGreatDoorE15
set_option linter.all false
namespace Go.Scarf
open Go.RowKit Go.Proofs
set_option maxHeartbeats 4000000 in
set_option maxRecDepth 10000 in
theorem printWrites_w (w0 : World) (hG : Gl w0) (x : Tree) (cx : List Value) (rx : Rep (fun _ => True) w0 (treeD x) cx) (ind : Int) (_ri : -9223372036854775808 ≤ ind) (_si : ind ≤ 9223372036854775807) (d : Int) (_rd : -9223372036854775808 ≤ d) (_sd : d ≤ 9223372036854775807) : Calls Tryz.prog 3 #[.agg cx.toArray, .int .i64 ind, .int .i64 d] w0 (Ret fun v w' => v = .bool true ∧ Same [] w0 w') := by
 have hlcx : cx.length = 4 := rx.length.trans (size_treeD x)
 have hocx := rx.one_
 refine calls_start Tryz.func3 rfl Tryz.ntmps3 (Nat.le_of_ble_eq_true rfl) (args_3 _ _ _) ?_
 have hF := FR.start w0 []
 refine c_seq (c_region ?_)
 refine o_box (v := .agg (List.toArray cx)) (cs := (List.toArray cx)) hF rfl rfl ?_
 clear hF; rintro b1 w hb1 hF -
 refine o_val (x_assign rfl) (o_nil (e_seq (c_seq (c_region ?_))))
 refine o_call (small8_c _ (hG.ext hF.same)) (x_call0 en_13 rfl) ?_
 rintro _ w ⟨rfl, hE⟩
 replace hF := hF.ext hE
 clear hE
 refine o_val (x_assign rfl) (o_nil (e_seq (c_seq (c_region (o_val (v := .agg (List.toArray cx)) (x_loadS (l := cx) Tryz.isAgg25 Tryz.sizeOf25 rfl hlcx (hF.cellsAll 0 rfl)) ?_)))))
 refine o_call (few_v x 300 (by omega) (by omega) _ _ cx (hF.rep rx)) (x_call2 en_14 rfl rfl rfl) ?_
 rintro _ w ⟨rfl, hE⟩
 replace hF := hF.ext hE
 clear hE
 refine o_val (x_assign rfl) (o_nil (e_seq (c_seq (c_seq (c_region (o_val (x_move rfl) (o_val (v := .bool (!(fewB x 300))) (x_not rfl) (o_nil (e_seq ?_)))))))))
 refine c_split (d := 26) (b := !(fewB x 300)) rfl (fun hc0 => ?_) (fun hc0 => ?_)
 refine c_ift rfl (c_seq (c_region (o_val (x_move rfl) (o_val (x_assign rfl) (o_nil (e_seq ?_))))))
 refine c_ret (e_ret (post_ret (res_1 (v := .bool true) rfl rfl) ?_))
 exact ⟨rfl, hF.same⟩
 refine c_iff rfl (c_skip (e_seq (c_seq (c_region ?_))))
 have fx_ : fewB x 300 = true := by simpa using hc0
 obtain ⟨sx, dx, tx⟩ := fewB_ok (by omega) fx_
 have mx := short_max x tx
 have kx := short_ok x tx
 refine o_val (v := .agg (List.toArray cx)) (x_loadS (l := cx) Tryz.isAgg25 Tryz.sizeOf25 rfl hlcx (hF.cellsAll 0 rfl)) ?_
 refine o_call (cloneR_c x _ _ cx (hF.rep rx) (by omega) (by omega)) (x_call1 en_15 rfl rfl) ?_
 rintro _ w ⟨cw, rfl, hRt, hE⟩
 have hlcw : cw.length = 4 := hRt.length.trans (size_treeD _)
 have hocw := hRt.one_
 have hW : Rep (fun _ => True) w (treeD x) cw := hRt.weaken fun _ _ _ => trivial
 replace hF := hF.ext hE
 clear hE hRt
 refine o_lay (l := cw) hF Tryz.zeroValue25 (by rw [hlcw]; exact Tryz.sizeOf25) (by rw [hlcw]; rfl) (v := .agg (List.toArray cw)) rfl rfl (hocw) rfl ?_
 clear hF; intro b2 w hb2 hF hE
 replace hW := hW.ext hE
 clear hE
 refine o_nil (e_seq (c_seq (c_region (o_val (v := .agg (List.toArray cx)) (x_loadS (l := cx) Tryz.isAgg25 Tryz.sizeOf25 rfl hlcx (hF.cellsAll 1 rfl)) ?_))))
 refine o_call (comp_c x _ _ cx (hF.rep rx) (hG.ext hF.same) (by omega) (by omega)) (x_call1 en_16 rfl rfl) ?_
 rintro _ w ⟨rfl, hE⟩
 replace hF := hF.ext hE
 replace hW := hW.ext hE
 clear hE
 refine o_val (x_move rfl) (o_val (x_extract rfl rfl) (o_val (x_extract rfl rfl) (o_val (x_assign rfl) (o_val (x_assign rfl) (o_nil (e_seq (c_seq (c_region (o_val (v := .agg (List.toArray cx)) (x_loadS (l := cx) Tryz.isAgg25 Tryz.sizeOf25 rfl hlcx (hF.cellsAll 1 rfl)) ?_)))))))))
 refine o_call (canon_c x _ _ cx (hF.rep rx) (hG.ext hF.same) (by omega) (by omega)) (x_call1 en_17 rfl rfl) ?_
 rintro _ w ⟨rfl, hE⟩
 replace hF := hF.ext hE
 replace hW := hW.ext hE
 clear hE
 refine o_val (x_move rfl) (o_val (x_extract rfl rfl) (o_val (x_extract rfl rfl) (o_val (x_assign rfl) (o_val (x_assign rfl) (o_nil (e_seq (c_seq (c_region (o_val (v := .agg (List.toArray cx)) (x_loadS (l := cx) Tryz.isAgg25 Tryz.sizeOf25 rfl hlcx (hF.cellsAll 1 rfl)) (o_val (x_move rfl) (o_val (x_move rfl) ?_)))))))))))
 refine o_call (pret_c x ind d _ _ cx (hF.rep rx) (hG.ext hF.same) (by omega) (by omega)) (x_call3 en_18 rfl rfl rfl rfl) ?_
 rintro _ w ⟨rfl, hE⟩
 replace hF := hF.ext hE
 replace hW := hW.ext hE
 clear hE
 refine o_val (x_move rfl) (o_val (x_extract rfl rfl) (o_val (x_extract rfl rfl) (o_val (x_assign rfl) (o_val (x_assign rfl) (o_nil (e_seq (c_seq (c_region (o_val (v := .agg (List.toArray cx)) (x_loadS (l := cx) Tryz.isAgg25 Tryz.sizeOf25 rfl hlcx (hF.cellsAll 1 rfl)) ?_)))))))))
 refine o_call (rcomp_c x (by omega) (by omega) _ _ cx (hF.rep rx)) (x_call1 en_19 rfl rfl) ?_
 rintro _ w ⟨rfl, hE⟩
 replace hF := hF.ext hE
 replace hW := hW.ext hE
 clear hE
 refine o_val (x_move rfl) (o_val (x_extract rfl rfl) (o_val (x_extract rfl rfl) (o_val (x_assign rfl) (o_val (x_assign rfl) (o_nil (e_seq (c_seq (c_region (o_val (v := .agg (List.toArray cx)) (x_loadS (l := cx) Tryz.isAgg25 Tryz.sizeOf25 rfl hlcx (hF.cellsAll 1 rfl)) ?_)))))))))
 refine o_call (rcanon_c x (by omega) (by omega) _ _ cx (hF.rep rx)) (x_call1 en_20 rfl rfl) ?_
 rintro _ w ⟨rfl, hE⟩
 replace hF := hF.ext hE
 replace hW := hW.ext hE
 clear hE
 refine o_val (x_move rfl) (o_val (x_extract rfl rfl) (o_val (x_extract rfl rfl) (o_val (x_assign rfl) (o_val (x_assign rfl) (o_nil (e_seq (c_seq (c_region (o_val (v := .agg (List.toArray cx)) (x_loadS (l := cx) Tryz.isAgg25 Tryz.sizeOf25 rfl hlcx (hF.cellsAll 1 rfl)) (o_val (x_move rfl) (o_val (x_move rfl) ?_)))))))))))
 refine o_call (rpretty_c x ind d (by omega) (by omega) _ _ cx (hF.rep rx)) (x_call3 en_21 rfl rfl rfl rfl) ?_
 rintro _ w ⟨rfl, hE⟩
 replace hF := hF.ext hE
 replace hW := hW.ext hE
 clear hE
 refine o_val (x_move rfl) (o_val (x_extract rfl rfl) (o_val (x_extract rfl rfl) (o_val (x_assign rfl) (o_val (x_assign rfl) (o_nil (e_seq (c_seq (c_region (o_val (x_move rfl) (o_val (x_move rfl) (o_val (x_move rfl) (o_val (x_move rfl) (o_val (v := .bool true) (run_true (x_eqls rfl rfl) rfl) ?_)))))))))))))
 refine o_val (x_pickt rfl rfl) (o_val (x_move rfl) (o_val (x_move rfl) (o_val (x_move rfl) (o_val (v := .bool true) (run_true (x_eql rfl rfl) rfl) (o_val (x_pickt rfl rfl) (o_val (x_move rfl) (o_val (x_move rfl) (o_val (x_move rfl) (o_val (v := .bool true) (run_true (x_eqls rfl rfl) rfl) (o_val (x_pickt rfl rfl) (o_val (x_move rfl) (o_val (x_move rfl) (o_val (x_move rfl) ?_)))))))))))))
 refine o_val (v := .bool true) (run_true (x_eql rfl rfl) rfl) (o_val (x_pickt rfl rfl) (o_val (x_move rfl) (o_val (x_move rfl) (o_val (x_move rfl) (o_val (v := .bool true) (run_true (x_eqls rfl rfl) rfl) (o_val (x_pickt rfl rfl) (o_val (x_move rfl) (o_val (x_move rfl) (o_val (x_move rfl) (o_val (v := .bool true) (run_true (x_eql rfl rfl) rfl) (o_val (x_pickt rfl rfl) (o_val (x_move rfl) (o_val (v := .agg (List.toArray cx)) (x_loadS (l := cx) Tryz.isAgg25 Tryz.sizeOf25 rfl hlcx (hF.cellsAll 1 rfl)) ?_)))))))))))))
 refine o_val (v := .agg (List.toArray cw)) (x_loadS (l := cw) Tryz.isAgg25 Tryz.sizeOf25 rfl hlcw (hF.cellsAll 0 rfl)) ?_
 refine o_call (ret_eq (v' := .bool true) (equal_c x x _ _ _ cx cw (hF.rep rx) hW) (congrArg Value.bool (eqT_self _))) (x_call2 en_22 rfl rfl rfl) ?_
 rintro _ w ⟨rfl, hE⟩
 replace hF := hF.ext hE
 replace hW := hW.ext hE
 clear hE
 refine o_val (x_pickt rfl rfl) (o_val (x_assign rfl) (o_nil (e_seq ?_)))
 refine c_ret (e_ret (post_ret (res_1 (v := .bool true) rfl rfl) ?_))
 exact ⟨rfl, hF.same⟩
end Go.Scarf
