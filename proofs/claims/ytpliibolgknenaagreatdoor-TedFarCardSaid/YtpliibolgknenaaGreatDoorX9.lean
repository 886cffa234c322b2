/- A part of the proof. -/
import Derived.Test.YtpliibolgknenaaGreatDoorZ14
set_option linter.all false
namespace Go.Scarf
open Go.RowKit Go.Proofs
theorem nb_right {b : Bool} (h : (!b) = false) : b = true := by simpa using h
theorem run_boolT {P : Program} {ρ : Operand → Value} {o : Oper} {w w' : World} {b : Bool} (h : (execOp ρ o).run P w = .ok (.value (.bool b)) w') (hb : b = true) : (execOp ρ o).run P w = .ok (.value (.bool true)) w' := by rw [h, hb]
set_option maxHeartbeats 4000000 in
set_option maxRecDepth 10000 in
theorem tedFar_w (w0 : World) (hG : Gl w0) (l0 : List Str) (f0 : List Int) (A0 : Option Addr) (c0 : Nat) (B0 : Option Addr) (e0 : Nat) (r0 : Rep (fun _ => True) w0 (strsD l0) [.slice A0 l0.length c0]) (q0 : Rep (fun _ => True) w0 (.slice (f0.map intD)) [.slice B0 f0.length e0]) (l1 : List Str) (f1 : List Int) (A1 : Option Addr) (c1 : Nat) (B1 : Option Addr) (e1 : Nat) (r1 : Rep (fun _ => True) w0 (strsD l1) [.slice A1 l1.length c1]) (q1 : Rep (fun _ => True) w0 (.slice (f1.map intD)) [.slice B1 f1.length e1]) (l2 : List Str) (f2 : List Int) (A2 : Option Addr) (c2 : Nat) (B2 : Option Addr) (e2 : Nat) (r2 : Rep (fun _ => True) w0 (strsD l2) [.slice A2 l2.length c2]) (q2 : Rep (fun _ => True) w0 (.slice (f2.map intD)) [.slice B2 f2.length e2]) : Calls Tryz.prog 4 #[.agg #[.slice A0 l0.length c0, .slice B0 f0.length e0], .agg #[.slice A1 l1.length c1, .slice B1 f1.length e1], .agg #[.slice A2 l2.length c2, .slice B2 f2.length e2]] w0 (Ret fun v w' => v = .bool true ∧ Same [] w0 w') := by
 have hl0 := r0.slice_len
 have hf0 := q0.slice_len
 have hl1 := r1.slice_len
 have hf1 := q1.slice_len
 have hl2 := r2.slice_len
 have hf2 := q2.slice_len
 refine calls_start Tryz.func4 rfl Tryz.ntmps4 (Nat.le_of_ble_eq_true rfl) (args_3 _ _ _) ?_
 have hF := FR.start w0 []
 refine c_seq (c_region ?_)
 refine o_box (v := .agg #[.slice (A0) (l0.length) (c0), .slice (B0) (f0.length) (e0)]) (cs := #[.slice (A0) (l0.length) (c0), .slice (B0) (f0.length) (e0)]) hF rfl rfl ?_
 clear hF; rintro b1 w hb1 hF -
 refine o_box (v := .agg #[.slice (A1) (l1.length) (c1), .slice (B1) (f1.length) (e1)]) (cs := #[.slice (A1) (l1.length) (c1), .slice (B1) (f1.length) (e1)]) hF rfl rfl ?_
 clear hF; rintro b2 w hb2 hF -
 refine o_box (v := .agg #[.slice (A2) (l2.length) (c2), .slice (B2) (f2.length) (e2)]) (cs := #[.slice (A2) (l2.length) (c2), .slice (B2) (f2.length) (e2)]) hF rfl rfl ?_
 clear hF; rintro b3 w hb3 hF -
 refine o_val (x_assign rfl) (o_nil (e_seq (c_seq (c_region ?_))))
 refine o_call (small16_c _ (hG.ext hF.same)) (x_call0 en_8 rfl) ?_
 rintro _ w ⟨rfl, hE⟩
 replace hF := hF.ext hE
 clear hE
 refine o_val (x_assign rfl) (o_nil (e_seq (c_seq (c_region (o_val (v := .agg #[.slice (A0) (l0.length) (c0), .slice (B0) (f0.length) (e0)]) (x_loadS (l := [.slice (A0) (l0.length) (c0), .slice (B0) (f0.length) (e0)]) Tryz.isAgg30 Tryz.sizeOf30 rfl rfl (hF.cellsAll 2 rfl)) ?_)))))
 refine o_call (fewN_c _ _ l0 f0 A0 B0 c0 e0 (hF.rep r0) (hF.rep q0) 40) (x_call2 en_13 rfl rfl rfl) ?_
 rintro _ w ⟨rfl, hE⟩
 replace hF := hF.ext hE
 clear hE
 refine o_val (x_move rfl) ?_
 refine o_split (d := 22) (b := fewN l0 f0 40) rfl (fun hg0 => ?_) (fun hg0 => ?_)
 refine o_val (v := .agg #[.slice (A1) (l1.length) (c1), .slice (B1) (f1.length) (e1)]) (x_loadS (l := [.slice (A1) (l1.length) (c1), .slice (B1) (f1.length) (e1)]) Tryz.isAgg30 Tryz.sizeOf30 rfl rfl (hF.cellsAll 1 rfl)) ?_
 refine o_call (fewN_c _ _ l1 f1 A1 B1 c1 e1 (hF.rep r1) (hF.rep q1) 40) (x_call2 en_13 rfl rfl rfl) ?_
 rintro _ w ⟨rfl, hE⟩
 replace hF := hF.ext hE
 clear hE
 refine o_val (x_pickt rfl rfl) (o_val (x_move rfl) ?_)
 refine o_split (d := 26) (b := fewN l1 f1 40) rfl (fun hg1 => ?_) (fun hg1 => ?_)
 refine o_val (v := .agg #[.slice (A2) (l2.length) (c2), .slice (B2) (f2.length) (e2)]) (x_loadS (l := [.slice (A2) (l2.length) (c2), .slice (B2) (f2.length) (e2)]) Tryz.isAgg30 Tryz.sizeOf30 rfl rfl (hF.cellsAll 0 rfl)) ?_
 refine o_call (fewN_c _ _ l2 f2 A2 B2 c2 e2 (hF.rep r2) (hF.rep q2) 40) (x_call2 en_13 rfl rfl rfl) ?_
 rintro _ w ⟨rfl, hE⟩
 replace hF := hF.ext hE
 clear hE
 refine o_val (x_pickt rfl rfl) (o_val (x_assign rfl) (o_nil (e_seq (c_seq (c_seq (c_region (o_val (x_move rfl) (o_val (v := .bool (!(fewN l2 f2 40))) (x_not rfl) (o_val (x_move rfl) ?_)))))))))
 refine o_split (d := 32) (b := !(fewN l2 f2 40)) rfl (fun hg2 => ?_) (fun hg2 => ?_)
 refine o_off (o_off (o_off (o_val (x_pickt rfl rfl) (o_val (x_move rfl) (o_off (o_off (o_off (o_val (x_pickt rfl rfl) (o_val (x_move rfl) (o_off (o_off (o_off (o_val (x_pickt rfl rfl) ?_)))))))))))))
 refine o_nil (e_seq (c_ift rfl (c_seq (c_region (o_val (x_move rfl) (o_val (x_assign rfl) (o_nil (e_seq ?_))))))))
 refine c_ret (e_ret (post_ret (res_1 (v := .bool true) rfl rfl) ?_))
 exact ⟨rfl, hF.same⟩
 refine o_val (v := .agg #[.slice (A0) (l0.length) (c0), .slice (B0) (f0.length) (e0)]) (x_loadS (l := [.slice (A0) (l0.length) (c0), .slice (B0) (f0.length) (e0)]) Tryz.isAgg30 Tryz.sizeOf30 rfl rfl (hF.cellsAll 2 rfl)) ?_
 refine o_call (rightT_c _ _ l0 f0 A0 B0 c0 e0 (hF.rep r0) (hF.rep q0)) (x_call1 en_14 rfl rfl) ?_
 rintro _ w ⟨ra0, rfl, hra0, hE⟩
 replace hF := hF.ext hE
 clear hE
 refine o_val (v := .bool (!(ra0))) (x_not rfl) (o_val (x_pickf rfl rfl) (o_val (x_move rfl) ?_))
 refine o_split (d := 37) (b := !(ra0)) rfl (fun hg3 => ?_) (fun hg3 => ?_)
 refine o_off (o_off (o_off (o_val (x_pickt rfl rfl) (o_val (x_move rfl) (o_off (o_off (o_off (o_val (x_pickt rfl rfl) (o_nil (e_seq (c_ift rfl (c_seq (c_region ?_)))))))))))))
 refine o_val (x_move rfl) (o_val (x_assign rfl) (o_nil (e_seq ?_)))
 refine c_ret (e_ret (post_ret (res_1 (v := .bool true) rfl rfl) ?_))
 exact ⟨rfl, hF.same⟩
 refine o_val (v := .agg #[.slice (A1) (l1.length) (c1), .slice (B1) (f1.length) (e1)]) (x_loadS (l := [.slice (A1) (l1.length) (c1), .slice (B1) (f1.length) (e1)]) Tryz.isAgg30 Tryz.sizeOf30 rfl rfl (hF.cellsAll 1 rfl)) ?_
 refine o_call (rightT_c _ _ l1 f1 A1 B1 c1 e1 (hF.rep r1) (hF.rep q1)) (x_call1 en_14 rfl rfl) ?_
 rintro _ w ⟨ra1, rfl, hra1, hE⟩
 replace hF := hF.ext hE
 clear hE
 refine o_val (v := .bool (!(ra1))) (x_not rfl) (o_val (x_pickf rfl rfl) (o_val (x_move rfl) ?_))
 refine o_split (d := 42) (b := !(ra1)) rfl (fun hg4 => ?_) (fun hg4 => ?_)
 refine o_off (o_off (o_off (o_val (x_pickt rfl rfl) (o_nil (e_seq (c_ift rfl (c_seq (c_region (o_val (x_move rfl) (o_val (x_assign rfl) (o_nil (e_seq ?_))))))))))))
 refine c_ret (e_ret (post_ret (res_1 (v := .bool true) rfl rfl) ?_))
 exact ⟨rfl, hF.same⟩
 refine o_val (v := .agg #[.slice (A2) (l2.length) (c2), .slice (B2) (f2.length) (e2)]) (x_loadS (l := [.slice (A2) (l2.length) (c2), .slice (B2) (f2.length) (e2)]) Tryz.isAgg30 Tryz.sizeOf30 rfl rfl (hF.cellsAll 0 rfl)) ?_
 refine o_call (rightT_c _ _ l2 f2 A2 B2 c2 e2 (hF.rep r2) (hF.rep q2)) (x_call1 en_14 rfl rfl) ?_
 rintro _ w ⟨ra2, rfl, hra2, hE⟩
 replace hF := hF.ext hE
 clear hE
 refine o_val (v := .bool (!(ra2))) (x_not rfl) (o_val (x_pickf rfl rfl) (o_nil (e_seq ?_)))
 refine c_split (d := 46) (b := !(ra2)) rfl (fun hc0 => ?_) (fun hc0 => ?_)
 refine c_ift rfl (c_seq (c_region (o_val (x_move rfl) (o_val (x_assign rfl) (o_nil (e_seq ?_))))))
 refine c_ret (e_ret (post_ret (res_1 (v := .bool true) rfl rfl) ?_))
 exact ⟨rfl, hF.same⟩
 refine c_iff rfl (c_skip (e_seq (c_seq (c_region (o_val (v := .agg #[.slice (A0) (l0.length) (c0), .slice (B0) (f0.length) (e0)]) (x_loadS (l := [.slice (A0) (l0.length) (c0), .slice (B0) (f0.length) (e0)]) Tryz.isAgg30 Tryz.sizeOf30 rfl rfl (hF.cellsAll 2 rfl)) (o_val (v := .agg #[.slice (A1) (l1.length) (c1), .slice (B1) (f1.length) (e1)]) (x_loadS (l := [.slice (A1) (l1.length) (c1), .slice (B1) (f1.length) (e1)]) Tryz.isAgg30 Tryz.sizeOf30 rfl rfl (hF.cellsAll 1 rfl)) ?_))))))
 have k0 := fewN_ok (ls := l0) (fs := f0) (m := 40) (by first | assumption | exact nb_right (by assumption))
 have hR0 : RightT l0 f0 := hra0.1 (by first | assumption | exact nb_right (by assumption))
 have k1 := fewN_ok (ls := l1) (fs := f1) (m := 40) (by first | assumption | exact nb_right (by assumption))
 have hR1 : RightT l1 f1 := hra1.1 (by first | assumption | exact nb_right (by assumption))
 have k2 := fewN_ok (ls := l2) (fs := f2) (m := 40) (by first | assumption | exact nb_right (by assumption))
 have hR2 : RightT l2 f2 := hra2.1 (by first | assumption | exact nb_right (by assumption))
 have cb01 := cost_bounds (ls := l0) (fs := f0) (gs := l1) (hs := f1)
 have cb10 := cost_bounds (ls := l1) (fs := f1) (gs := l0) (hs := f0)
 have cb12 := cost_bounds (ls := l1) (fs := f1) (gs := l2) (hs := f2)
 have cb02 := cost_bounds (ls := l0) (fs := f0) (gs := l2) (hs := f2)
 have ct := cost_tri (ls := l0) (fs := f0) (gs := l1) (hs := f1) (ks := l2) (is := f2)
 have cc := cost_comm (ls := l0) (fs := f0) (gs := l1) (hs := f1)
 have cz := cost_zero hR0 hR1
 refine o_call (cost_yes _ _ _ l0 f0 A0 B0 c0 e0 (hF.rep r0) (hF.rep q0) l1 f1 A1 B1 c1 e1 (hF.rep r1) (hF.rep q1) hR0 hR1) (x_call2 en_15 rfl rfl rfl) ?_
 rintro _ w ⟨rfl, hE⟩
 replace hF := hF.ext hE
 clear hE
 refine o_val (x_move rfl) (o_val (x_extract rfl rfl) (o_val (x_extract rfl rfl) (o_val (x_assign rfl) (o_val (x_assign rfl) (o_nil (e_seq (c_seq (c_region (o_val (v := .agg #[.slice (A1) (l1.length) (c1), .slice (B1) (f1.length) (e1)]) (x_loadS (l := [.slice (A1) (l1.length) (c1), .slice (B1) (f1.length) (e1)]) Tryz.isAgg30 Tryz.sizeOf30 rfl rfl (hF.cellsAll 1 rfl)) (o_val (v := .agg #[.slice (A0) (l0.length) (c0), .slice (B0) (f0.length) (e0)]) (x_loadS (l := [.slice (A0) (l0.length) (c0), .slice (B0) (f0.length) (e0)]) Tryz.isAgg30 Tryz.sizeOf30 rfl rfl (hF.cellsAll 2 rfl)) ?_))))))))))
 refine o_call (cost_yes _ _ _ l1 f1 A1 B1 c1 e1 (hF.rep r1) (hF.rep q1) l0 f0 A0 B0 c0 e0 (hF.rep r0) (hF.rep q0) hR1 hR0) (x_call2 en_15 rfl rfl rfl) ?_
 rintro _ w ⟨rfl, hE⟩
 replace hF := hF.ext hE
 clear hE
 refine o_val (x_move rfl) (o_val (x_extract rfl rfl) (o_val (x_extract rfl rfl) (o_val (x_assign rfl) (o_val (x_assign rfl) (o_nil (e_seq (c_seq (c_region (o_val (v := .agg #[.slice (A1) (l1.length) (c1), .slice (B1) (f1.length) (e1)]) (x_loadS (l := [.slice (A1) (l1.length) (c1), .slice (B1) (f1.length) (e1)]) Tryz.isAgg30 Tryz.sizeOf30 rfl rfl (hF.cellsAll 1 rfl)) (o_val (v := .agg #[.slice (A2) (l2.length) (c2), .slice (B2) (f2.length) (e2)]) (x_loadS (l := [.slice (A2) (l2.length) (c2), .slice (B2) (f2.length) (e2)]) Tryz.isAgg30 Tryz.sizeOf30 rfl rfl (hF.cellsAll 0 rfl)) ?_))))))))))
 refine o_call (cost_yes _ _ _ l1 f1 A1 B1 c1 e1 (hF.rep r1) (hF.rep q1) l2 f2 A2 B2 c2 e2 (hF.rep r2) (hF.rep q2) hR1 hR2) (x_call2 en_15 rfl rfl rfl) ?_
 rintro _ w ⟨rfl, hE⟩
 replace hF := hF.ext hE
 clear hE
 refine o_val (x_move rfl) (o_val (x_extract rfl rfl) (o_val (x_extract rfl rfl) (o_val (x_assign rfl) (o_val (x_assign rfl) (o_nil (e_seq (c_seq (c_region (o_val (v := .agg #[.slice (A0) (l0.length) (c0), .slice (B0) (f0.length) (e0)]) (x_loadS (l := [.slice (A0) (l0.length) (c0), .slice (B0) (f0.length) (e0)]) Tryz.isAgg30 Tryz.sizeOf30 rfl rfl (hF.cellsAll 2 rfl)) (o_val (v := .agg #[.slice (A2) (l2.length) (c2), .slice (B2) (f2.length) (e2)]) (x_loadS (l := [.slice (A2) (l2.length) (c2), .slice (B2) (f2.length) (e2)]) Tryz.isAgg30 Tryz.sizeOf30 rfl rfl (hF.cellsAll 0 rfl)) ?_))))))))))
 refine o_call (cost_yes _ _ _ l0 f0 A0 B0 c0 e0 (hF.rep r0) (hF.rep q0) l2 f2 A2 B2 c2 e2 (hF.rep r2) (hF.rep q2) hR0 hR2) (x_call2 en_15 rfl rfl rfl) ?_
 rintro _ w ⟨rfl, hE⟩
 replace hF := hF.ext hE
 clear hE
 refine o_val (x_move rfl) (o_val (x_extract rfl rfl) (o_val (x_extract rfl rfl) (o_val (x_assign rfl) (o_val (x_assign rfl) (o_nil (e_seq (c_seq (c_region (o_val (v := .pointer (some ⟨b1, 0, none⟩)) (x_fieldAddrO fa_30_0 rfl) (o_val (v := .slice (A0) (l0.length) (c0)) (x_load Tryz.isAgg22 rfl (hF.cell 2 rfl rfl)) (o_val (v := .int .i64 ((l0.length : Nat))) (x_len_slice Tryz.underlying22 rfl) (o_val (x_assign rfl) (o_nil ?_)))))))))))))
 refine e_seq (c_seq (c_region (o_val (v := .pointer (some ⟨b2, 0, none⟩)) (x_fieldAddrO fa_30_0 rfl) (o_val (v := .slice (A1) (l1.length) (c1)) (x_load Tryz.isAgg22 rfl (hF.cell 1 rfl rfl)) (o_val (v := .int .i64 ((l1.length : Nat))) (x_len_slice Tryz.underlying22 rfl) (o_val (x_assign rfl) (o_nil (e_seq (c_seq (c_region (o_val (x_move rfl) (o_val (x_move rfl) (o_val (x_move rfl) ?_)))))))))))))
 refine o_val (v := .bool true) (run_true (x_eql rfl rfl) (by decide)) (o_val (x_pickt rfl rfl) (o_val (x_move rfl) (o_val (x_move rfl) (o_val (v := .bool true) (run_true (x_eql rfl rfl) (by decide)) (o_val (x_pickt rfl rfl) (o_val (x_move rfl) (o_val (x_move rfl) (o_val (v := .bool true) (run_true (x_eql rfl rfl) (by decide)) (o_val (x_pickt rfl rfl) (o_val (x_move rfl) (o_val (x_move rfl) (o_val (v := .bool true) (run_true (x_eql rfl rfl) (by decide)) (o_val (x_pickt rfl rfl) ?_)))))))))))))
 refine o_val (x_move rfl) (o_val (x_move rfl) (o_val (x_move rfl) (o_val (v := .bool true) (run_true (x_eql rfl rfl) (by omega)) (o_val (x_pickt rfl rfl) (o_val (x_move rfl) (o_val (x_move rfl) (o_val (x_move rfl) (o_val (x_move rfl) (o_val (v := .int .i64 (((costT l0 f0 l1 f1 : Nat) : Int) + (costT l1 f1 l2 f2 : Nat))) (x_add rfl rfl (wrap_id (by omega) (by omega))) (o_val (v := .bool true) (run_true (x_leq rfl rfl) (by omega)) (o_val (x_pickt rfl rfl) (o_val (x_move rfl) (o_val (x_move rfl) ?_)))))))))))))
 refine o_val (v := .bool (decide (((costT l0 f0 l1 f1 : Nat) : Int) = (0 : Int)))) (x_eql rfl rfl) (o_val (v := .agg #[.slice (A0) (l0.length) (c0), .slice (B0) (f0.length) (e0)]) (x_loadS (l := [.slice (A0) (l0.length) (c0), .slice (B0) (f0.length) (e0)]) Tryz.isAgg30 Tryz.sizeOf30 rfl rfl (hF.cellsAll 2 rfl)) (o_val (v := .agg #[.slice (A1) (l1.length) (c1), .slice (B1) (f1.length) (e1)]) (x_loadS (l := [.slice (A1) (l1.length) (c1), .slice (B1) (f1.length) (e1)]) Tryz.isAgg30 Tryz.sizeOf30 rfl rfl (hF.cellsAll 1 rfl)) ?_))
 refine o_call (same15_c _ _ _ l0 f0 A0 B0 c0 e0 (hF.rep r0) (hF.rep q0) l1 f1 A1 B1 c1 e1 (hF.rep r1) (hF.rep q1)) (x_call2 en_16 rfl rfl rfl) ?_
 rintro _ w ⟨rfl, hE⟩
 replace hF := hF.ext hE
 clear hE
 refine o_val (v := .bool true) (run_boolT (x_eqlb Tryz.underlying4 rfl rfl) (beq_iff_eq.2 (decide_eq_decide.2 ⟨fun h => cz.1 (by omega), fun h => by have := cz.2 h; omega⟩))) ?_
 refine o_val (x_pickt rfl rfl) (o_val (x_move rfl) (o_val (x_move rfl) (o_val (x_move rfl) (o_val (x_move rfl) (o_val (v := .int .i64 (((l0.length : Nat) : Int) - (l1.length : Nat))) (x_sub rfl rfl (wrap_id (by omega) (by omega))) (o_val (v := .bool true) (run_true (x_geq rfl rfl) (by omega)) (o_val (x_pickt rfl rfl) (o_val (x_move rfl) (o_val (x_move rfl) (o_val (x_move rfl) (o_val (x_move rfl) (o_val (v := .int .i64 (((l1.length : Nat) : Int) - (l0.length : Nat))) (x_sub rfl rfl (wrap_id (by omega) (by omega))) (o_val (v := .bool true) (run_true (x_geq rfl rfl) (by omega)) ?_)))))))))))))
 refine o_val (x_pickt rfl rfl) (o_val (x_move rfl) (o_val (x_move rfl) (o_val (x_move rfl) (o_val (x_move rfl) (o_val (v := .int .i64 (((l0.length : Nat) : Int) + (l1.length : Nat))) (x_add rfl rfl (wrap_id (by omega) (by omega))) (o_val (v := .bool true) (run_true (x_leq rfl rfl) (by omega)) (o_val (x_pickt rfl rfl) (o_val (x_assign rfl) (o_nil (e_seq ?_))))))))))
 refine c_ret (e_ret (post_ret (res_1 (v := .bool true) rfl rfl) ?_))
 exact ⟨rfl, hF.same⟩
 refine o_off (o_off (o_val (x_pickf rfl rfl) (o_val (x_assign rfl) (o_nil (e_seq (c_seq (c_seq (c_region (o_val (x_move rfl) (o_val (v := .bool true) (x_not (b := false) rfl) (o_val (x_move rfl) (o_off (o_off ?_)))))))))))))
 refine o_off (o_val (x_pickt rfl rfl) (o_val (x_move rfl) (o_off (o_off (o_off (o_val (x_pickt rfl rfl) (o_val (x_move rfl) (o_off (o_off (o_off (o_val (x_pickt rfl rfl) (o_nil (e_seq ?_)))))))))))))
 refine c_ift rfl (c_seq (c_region (o_val (x_move rfl) (o_val (x_assign rfl) (o_nil (e_seq ?_))))))
 refine c_ret (e_ret (post_ret (res_1 (v := .bool true) rfl rfl) ?_))
 exact ⟨rfl, hF.same⟩
 refine o_off (o_off (o_val (x_pickf rfl rfl) (o_val (x_move rfl) (o_off (o_off (o_val (x_pickf rfl rfl) (o_val (x_assign rfl) (o_nil (e_seq (c_seq (c_seq (c_region (o_val (x_move rfl) ?_)))))))))))))
 refine o_val (v := .bool true) (x_not (b := false) rfl) (o_val (x_move rfl) (o_off (o_off (o_off (o_val (x_pickt rfl rfl) (o_val (x_move rfl) (o_off (o_off (o_off (o_val (x_pickt rfl rfl) (o_val (x_move rfl) (o_off (o_off ?_)))))))))))))
 refine o_off (o_val (x_pickt rfl rfl) (o_nil (e_seq (c_ift rfl (c_seq (c_region (o_val (x_move rfl) (o_val (x_assign rfl) (o_nil (e_seq ?_))))))))))
 refine c_ret (e_ret (post_ret (res_1 (v := .bool true) rfl rfl) ?_))
 exact ⟨rfl, hF.same⟩
end Go.Scarf
