/- A part of the proof. -/
import Derived.Test.YtehmojdjpmliaaaGreatDoorC2
set_option linter.all false
namespace Go.Scarf
open Go.RowKit Go.Proofs
set_option maxHeartbeats 4000000 in
set_option maxRecDepth 10000 in
theorem printCanons_w (w0 : World) (hG : Gl w0) (x : Tree) (cx : List Value) (rx : Rep (fun _ => True) w0 (treeD x) cx) : Calls Tryz.prog 6 #[.agg cx.toArray] w0 (Ret fun v w' => v = .bool true ∧ Same [] w0 w') := by
  have hl : cx.length = 4 := rx.length.trans (size_treeD x)
  have ho := rx.one_
  refine calls_start Tryz.func6 rfl Tryz.ntmps6 (Nat.le_of_ble_eq_true rfl) (args_1 _) ?_
  have hF := FR.start w0 []
  refine c_seq ?_
  refine c_region ?_
  refine o_box (v := .agg (List.toArray cx)) (cs := (List.toArray cx)) hF rfl rfl ?_
  clear hF; intro b1 w hb1 hF hE
  clear hE
  refine o_val (v := .bool false) (x_assign rfl) ?_
  refine o_nil ?_
  refine e_seq ?_
  refine c_seq ?_
  refine c_region ?_
  refine o_call (small8_c _ (hG.ext hF.same)) (x_call0 en_13 rfl) ?_
  rintro _ w ⟨rfl, hE⟩
  replace hF := hF.ext hE
  clear hE
  refine o_val (v := .bool true) (x_assign rfl) ?_
  refine o_nil ?_
  refine e_seq ?_
  refine c_seq ?_
  refine c_region ?_
  refine o_val (v := .agg (List.toArray cx)) (x_loadS (l := cx) Tryz.isAgg25 Tryz.sizeOf25 rfl hl (hF.cellsAll 0 rfl)) ?_
  refine o_call (few_v x 300 (by omega) (by omega) _ _ cx (hF.rep rx)) (x_call2 en_14 rfl rfl rfl) ?_
  rintro _ w ⟨rfl, hE⟩
  replace hF := hF.ext hE
  clear hE
  refine o_val (v := .bool (fewB x 300)) (x_assign rfl) ?_
  refine o_nil ?_
  refine e_seq ?_
  refine c_seq ?_
  refine c_seq ?_
  refine c_region ?_
  refine o_val (v := .bool (fewB x 300)) (x_move rfl) ?_
  refine o_val (v := .bool (!(fewB x 300))) (x_not rfl) ?_
  refine o_nil ?_
  refine e_seq ?_
  refine c_split (d := 17) (b := !(fewB x 300)) rfl (fun hc0 => ?_) (fun hc0 => ?_)
  ·
    refine c_ift rfl ?_
    refine c_seq ?_
    refine c_region ?_
    refine o_val (v := .bool true) (x_move rfl) ?_
    refine o_val (v := .bool true) (x_assign rfl) ?_
    refine o_nil ?_
    refine e_seq ?_
    refine c_ret (e_ret (post_ret (res_1 (v := .bool true) rfl rfl) ?_))
    exact ⟨rfl, hF.same⟩
  ·
    refine c_iff rfl ?_
    refine c_skip ?_
    refine e_seq ?_
    refine c_seq ?_
    refine c_region ?_
    have fx_ : fewB x 300 = true := by simpa using hc0
    obtain ⟨sx, dx, tx⟩ := fewB_ok (by omega) fx_
    have mx := short_max x tx
    have kx := okT_max x (by omega)
    refine o_val (v := .agg (List.toArray cx)) (x_loadS (l := cx) Tryz.isAgg25 Tryz.sizeOf25 rfl hl (hF.cellsAll 0 rfl)) ?_
    have fx_ : fewB x 300 = true := by simpa using hc0
    obtain ⟨sx, dx, tx⟩ := fewB_ok (by omega) fx_
    have mx := short_max x tx
    have kx := okT_max x (by omega)
    refine o_call (canon_c x _ _ cx (hF.rep rx) (hG.ext hF.same) (by omega) (by omega)) (x_call1 en_17 rfl rfl) ?_
    rintro _ w ⟨rfl, hE⟩
    replace hF := hF.ext hE
    clear hE
    refine o_val (v := .tuple #[.string (bs (compS (sortedV x))), .int .i64 (compE (sortedV x))]) (x_move rfl) ?_
    refine o_val (v := .string (bs (compS (sortedV x)))) (x_extract rfl rfl) ?_
    refine o_val (v := .int .i64 (compE (sortedV x))) (x_extract rfl rfl) ?_
    refine o_val (v := .string (bs (compS (sortedV x)))) (x_assign rfl) ?_
    refine o_val (v := .int .i64 (compE (sortedV x))) (x_assign rfl) ?_
    refine o_nil ?_
    refine e_seq ?_
    refine c_seq ?_
    refine c_region ?_
    refine o_val (v := .agg (List.toArray cx)) (x_loadS (l := cx) Tryz.isAgg25 Tryz.sizeOf25 rfl hl (hF.cellsAll 0 rfl)) ?_
    refine o_call (sortedV_c x (by omega) _ _ cx (hF.rep rx) kx (hG.ext hF.same)) (x_call1 en_26 rfl rfl) ?_
    rintro _ w ⟨c1, rfl, hRt, hE⟩
    have hlc1 : c1.length = 4 := hRt.length.trans (size_treeD _)
    have hoc1 := hRt.one_
    have hX1 := RX.made (ids := [b1]) hF.same.size (fun x hx => hF.lt_ids (by grind)) hRt
    replace hF := hF.ext hE
    clear hE hRt
    refine o_call ((by have h := canon_c (sortedV x) _ _ c1 hX1.rep (hG.ext hF.same) (size_sorted x (by omega)) (Nat.le_trans (maxL_sorted x) (by omega)); rw [sorted_sorted] at h; exact h)) (x_call1 en_17 rfl rfl) ?_
    rintro _ w ⟨rfl, hE⟩
    replace hF := hF.ext hE
    replace hX1 := hX1.ext hE
    clear hE
    refine o_val (v := .tuple #[.string (bs (compS (sortedV x))), .int .i64 (compE (sortedV x))]) (x_move rfl) ?_
    refine o_val (v := .string (bs (compS (sortedV x)))) (x_extract rfl rfl) ?_
    refine o_val (v := .int .i64 (compE (sortedV x))) (x_extract rfl rfl) ?_
    refine o_val (v := .string (bs (compS (sortedV x)))) (x_assign rfl) ?_
    refine o_val (v := .int .i64 (compE (sortedV x))) (x_assign rfl) ?_
    refine o_nil ?_
    refine e_seq ?_
    refine c_seq ?_
    refine c_region ?_
    refine o_val (v := .agg (List.toArray cx)) (x_loadS (l := cx) Tryz.isAgg25 Tryz.sizeOf25 rfl hl (hF.cellsAll 0 rfl)) ?_
    refine o_call (sortedV_c x (by omega) _ _ cx (hF.rep rx) kx (hG.ext hF.same)) (x_call1 en_26 rfl rfl) ?_
    rintro _ w ⟨c2, rfl, hRt, hE⟩
    have hlc2 : c2.length = 4 := hRt.length.trans (size_treeD _)
    have hoc2 := hRt.one_
    have hX2 := RX.made (ids := [b1]) hF.same.size (fun x hx => hF.lt_ids (by grind)) hRt
    replace hX1 := hX1.ext hE
    replace hF := hF.ext hE
    clear hE hRt
    refine o_call (comp_c (sortedV x) _ _ c2 hX2.rep (hG.ext hF.same) (size_sorted x (by omega)) (Nat.le_trans (maxL_sorted x) (by omega))) (x_call1 en_16 rfl rfl) ?_
    rintro _ w ⟨rfl, hE⟩
    replace hF := hF.ext hE
    replace hX2 := hX2.ext hE
    clear hE
    refine o_val (v := .tuple #[.string (bs (compS (sortedV x))), .int .i64 (compE (sortedV x))]) (x_move rfl) ?_
    refine o_val (v := .string (bs (compS (sortedV x)))) (x_extract rfl rfl) ?_
    refine o_val (v := .int .i64 (compE (sortedV x))) (x_extract rfl rfl) ?_
    refine o_val (v := .string (bs (compS (sortedV x)))) (x_assign rfl) ?_
    refine o_val (v := .int .i64 (compE (sortedV x))) (x_assign rfl) ?_
    refine o_nil ?_
    refine e_seq ?_
    refine c_seq ?_
    refine c_region ?_
    refine o_val (v := .agg (List.toArray cx)) (x_loadS (l := cx) Tryz.isAgg25 Tryz.sizeOf25 rfl hl (hF.cellsAll 0 rfl)) ?_
    refine o_call (comp_c x _ _ cx (hF.rep rx) (hG.ext hF.same) (by omega) (by omega)) (x_call1 en_16 rfl rfl) ?_
    rintro _ w ⟨rfl, hE⟩
    replace hF := hF.ext hE
    replace hX2 := hX2.ext hE
    clear hE
    refine o_val (v := .tuple #[.string (bs (compS x)), .int .i64 (compE x)]) (x_move rfl) ?_
    refine o_val (v := .string (bs (compS x))) (x_extract rfl rfl) ?_
    refine o_val (v := .int .i64 (compE x)) (x_extract rfl rfl) ?_
    refine o_val (v := .string (bs (compS x))) (x_assign rfl) ?_
    refine o_val (v := .int .i64 (compE x)) (x_assign rfl) ?_
    refine o_nil ?_
    refine e_seq ?_
    refine c_seq ?_
    refine c_region ?_
    refine o_val (v := .bool true) (x_move rfl) ?_
    refine o_val (v := .bool true) (x_move rfl) ?_
    refine o_val (v := .int .i64 (compE (sortedV x))) (x_move rfl) ?_
    refine o_val (v := .int .i64 (compE (sortedV x))) (x_move rfl) ?_
    refine o_val (v := .bool true) (run_true (x_eql rfl rfl) (rfl)) ?_
    refine o_val (v := .bool true) (x_pickt rfl rfl) ?_
    refine o_val (v := .bool true) (x_move rfl) ?_
    refine o_val (v := .int .i64 (compE (sortedV x))) (x_move rfl) ?_
    refine o_val (v := .int .i64 (compE (sortedV x))) (x_move rfl) ?_
    refine o_val (v := .bool true) (run_true (x_eql rfl rfl) (rfl)) ?_
    refine o_val (v := .bool true) (x_pickt rfl rfl) ?_
    refine o_val (v := .bool true) (x_move rfl) ?_
    refine o_val (v := .string (bs (compS (sortedV x)))) (x_move rfl) ?_
    refine o_val (v := .string (bs (compS (sortedV x)))) (x_move rfl) ?_
    refine o_val (v := .bool true) (run_true (x_eqls rfl rfl) (rfl)) ?_
    refine o_val (v := .bool true) (x_pickt rfl rfl) ?_
    refine o_val (v := .bool true) (x_move rfl) ?_
    refine o_val (v := .string (bs (compS (sortedV x)))) (x_move rfl) ?_
    refine o_val (v := .string (bs (compS (sortedV x)))) (x_move rfl) ?_
    refine o_val (v := .bool true) (run_true (x_eqls rfl rfl) (rfl)) ?_
    refine o_val (v := .bool true) (x_pickt rfl rfl) ?_
    refine o_val (v := .bool true) (x_move rfl) ?_
    refine o_val (v := .int .i64 (compE (sortedV x))) (x_move rfl) ?_
    refine o_val (v := .int .i64 (compE x)) (x_move rfl) ?_
    refine o_val (v := .bool true) (run_true (x_eql rfl rfl) (comp_sorted_err x)) ?_
    refine o_val (v := .bool true) (x_pickt rfl rfl) ?_
    refine o_val (v := .bool true) (x_move rfl) ?_
    refine o_val (v := .string (bs (compS (sortedV x)))) (x_move rfl) ?_
    refine o_val (v := .int .i64 ((((compS (sortedV x)) : Str).length : Int))) (x_len_string Tryz.underlying9 rfl) ?_
    refine o_val (v := .string (bs (compS x))) (x_move rfl) ?_
    refine o_val (v := .int .i64 ((((compS x) : Str).length : Int))) (x_len_string Tryz.underlying9 rfl) ?_
    refine o_val (v := .bool true) (run_true (x_eql rfl rfl) (by rw [comp_sorted_len])) ?_
    refine o_val (v := .bool true) (x_pickt rfl rfl) ?_
    refine o_val (v := .bool true) (x_assign rfl) ?_
    refine o_nil ?_
    refine e_seq ?_
    refine c_ret (e_ret (post_ret (res_1 (v := .bool true) rfl rfl) ?_))
    exact ⟨rfl, hF.same⟩
end Go.Scarf
