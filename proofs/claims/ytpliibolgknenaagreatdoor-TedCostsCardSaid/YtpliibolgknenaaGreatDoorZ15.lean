/- A part of the proof. -/
import Derived.Test.YtpliibolgknenaaGreatDoorZ11
set_option linter.all false
namespace Go.Scarf
open Go.RowKit Go.Proofs
set_option maxHeartbeats 4000000 in
set_option maxRecDepth 10000 in
theorem rright15_c (S : Nat → Prop) (w0 : World) (la : List Str) (fa : List Int) (Aa Ba : Option Addr) (ca ea : Nat) (hLa : Rep S w0 (strsD la) [.slice Aa la.length ca]) (hNa : Rep S w0 (.slice (fa.map intD)) [.slice Ba fa.length ea]) : Calls Tryz.prog 34 #[.agg #[.slice Aa la.length ca, .slice Ba fa.length ea]] w0 (Ret fun v w' => ∃ b : Bool, v = .bool b ∧ (b = true ↔ RightT la fa) ∧ Same [] w0 w') := by
 have hLla := hLa.slice_len
 have hNla := hNa.slice_len
 rw [List.length_map] at hLla hNla
 refine calls_start Tryz.func34 rfl Tryz.ntmps34 (Nat.le_of_ble_eq_true rfl) (args_1 _) ?_
 have hF := FR.start w0 []
 refine c_seq (c_region ?_)
 refine o_box (v := .agg #[.slice (Aa) (la.length) (ca), .slice (Ba) (fa.length) (ea)]) (cs := #[.slice (Aa) (la.length) (ca), .slice (Ba) (fa.length) (ea)]) hF rfl rfl ?_
 clear hF; rintro b1 w hb1 hF -
 refine o_val (x_assign rfl) (o_nil (e_seq (c_seq (c_seq (c_region (o_val (v := .pointer (some ⟨b1, 0, none⟩)) (x_fieldAddrO fa_30_0 rfl) (o_val (v := .slice (Aa) (la.length) (ca)) (x_load Tryz.isAgg22 rfl (hF.cell 0 rfl rfl)) (o_val (v := .int .i64 ((la.length : Nat))) (x_len_slice Tryz.underlying22 rfl) (o_val (v := .pointer (some ⟨b1, 1, none⟩)) (x_fieldAddrO fa_30_1 rfl) (o_val (v := .slice (Ba) (fa.length) (ea)) (x_load Tryz.isAgg28 rfl (hF.cell 0 rfl rfl)) (o_val (v := .int .i64 ((fa.length : Nat))) (x_len_slice Tryz.underlying28 rfl) (o_val (v := .bool (decide (((la.length : Nat) : Int) ≠ ((fa.length : Nat) : Int)))) (x_neq rfl rfl) (o_val (x_move rfl) ?_)))))))))))))
 refine o_splitd (d := 12) (p := ((la.length : Nat) : Int) ≠ ((fa.length : Nat) : Int)) rfl (fun hg0 => ?_) (fun hg0 => ?_)
 refine o_off (o_off (o_off (o_off (o_val (x_pickt rfl rfl) (o_nil (e_seq (c_ift rfl (c_seq (c_region (o_val (x_assign rfl) (o_nil (e_seq ?_))))))))))))
 refine c_ret (e_ret (post_ret (res_1 (v := .bool false) rfl rfl) ?_))
 refine ⟨false, rfl, ⟨fun h => (by cases h), fun h => ?_⟩, hF.same⟩
 exfalso
 have := h.1
 have := h.2.1
 omega
 refine o_val (v := .pointer (some ⟨b1, 0, none⟩)) (x_fieldAddrO fa_30_0 rfl) (o_val (v := .slice (Aa) (la.length) (ca)) (x_load Tryz.isAgg22 rfl (hF.cell 0 rfl rfl)) (o_val (v := .int .i64 ((la.length : Nat))) (x_len_slice Tryz.underlying22 rfl) (o_val (v := .bool (decide ((512 : Int) < ((la.length : Nat) : Int)))) (x_gtr rfl rfl) (o_val (x_pickf rfl rfl) (o_nil (e_seq ?_))))))
 refine c_splitd (d := 17) (p := (512 : Int) < ((la.length : Nat) : Int)) rfl (fun hc0 => ?_) (fun hc0 => ?_)
 refine c_ift rfl (c_seq (c_region (o_val (x_assign rfl) (o_nil (e_seq ?_)))))
 refine c_ret (e_ret (post_ret (res_1 (v := .bool false) rfl rfl) ?_))
 refine ⟨false, rfl, ⟨fun h => (by cases h), fun h => ?_⟩, hF.same⟩
 exfalso
 have := h.1
 have := h.2.1
 omega
 refine c_iff rfl (c_skip (e_seq (c_seq (c_seq (c_region (o_val (x_assign rfl) (o_nil (e_seq (c_block ?_)))))))))
 have hlf5 : la.length = fa.length ∧ la.length ≤ 512 := by omega
 refine c_loop (fun μ σ w => ∃ (j : Nat), μ = fa.length - j ∧ (j ≤ fa.length) ∧ (lfOk fa j) ∧ AllEq σ [(1, .pointer (some ⟨b1, 0, none⟩)), (3, .int .i64 ((j : Int)))] ∧ FR w0 [] [(b1, .cells #[.slice (Aa) (la.length) (ca), .slice (Ba) (fa.length) (ea)] 30)] w) _ ⟨0, rfl, (Nat.zero_le _), (fun i _ h => by omega), ⟨rfl, rfl, trivial⟩, hF⟩ ?_
 clear hF; rintro μ σ w ⟨j, rfl, hj, hok, hs, hF⟩
 refine Cg.slots hs ?_
 clear hs; intro σ
 refine c_seq (c_seq (c_region (o_val (x_move rfl) (o_val (v := .pointer (some ⟨b1, 1, none⟩)) (x_fieldAddrO fa_30_1 rfl) (o_val (v := .slice (Ba) (fa.length) (ea)) (x_load Tryz.isAgg28 rfl (hF.cell 0 rfl rfl)) (o_val (v := .int .i64 ((fa.length : Nat))) (x_len_slice Tryz.underlying28 rfl) (o_val (v := .bool (decide (((j : Int) : Int) < ((fa.length : Nat) : Int)))) (x_lss rfl rfl) (o_nil (e_seq ?_)))))))))
 refine c_splitd (d := 22) (p := ((j : Int) : Int) < ((fa.length : Nat) : Int)) rfl (fun hc1 => ?_) (fun hc1 => ?_)
 refine c_ift rfl (c_skip (e_seq (c_seq (c_block (c_seq (c_seq (c_region (o_val (v := .pointer (some ⟨b1, 1, none⟩)) (x_fieldAddrO fa_30_1 rfl) (o_val (v := .slice (Ba) (fa.length) (ea)) (x_load Tryz.isAgg28 rfl (hF.cell 0 rfl rfl)) (o_val (x_move rfl) ?_))))))))))
 obtain ⟨ad1, hA1, hk1, hx1⟩ := hNa.int_elem (i := j) (by omega)
 refine o_val (v := .pointer (some (ad1.add (j * 1)))) (x_indexAddrA (i := (j : Int)) sl_28 rfl hA1 rfl (by omega) (by omega)) (o_val (v := .int .i64 (fa[j])) (x_load Tryz.isAgg3 rfl (hF.cell0 hk1)) (o_val (v := .bool (decide ((fa[j] : Int) < (0 : Int)))) (x_lss rfl rfl) (o_val (x_move rfl) ?_)))
 refine o_splitd (d := 31) (p := (fa[j] : Int) < (0 : Int)) rfl (fun hg2 => ?_) (fun hg2 => ?_)
 refine o_off (o_off (o_off (o_off (o_off (o_off (o_off (o_val (x_pickt rfl rfl) (o_nil (e_seq (c_ift rfl (c_seq (c_region (o_val (x_assign rfl) ?_)))))))))))))
 refine o_nil (e_seq ?_)
 refine c_ret (e_ret (post_ret (res_1 (v := .bool false) rfl rfl) ?_))
 refine ⟨false, rfl, ⟨fun h => (by cases h), fun h => ?_⟩, hF.same⟩
 exfalso
 have := h.2.2 j (by omega) (by omega)
 omega
 refine o_val (v := .pointer (some ⟨b1, 1, none⟩)) (x_fieldAddrO fa_30_1 rfl) (o_val (v := .slice (Ba) (fa.length) (ea)) (x_load Tryz.isAgg28 rfl (hF.cell 0 rfl rfl)) (o_val (x_move rfl) ?_))
 obtain ⟨ad3, hA3, hk3, hx3⟩ := hNa.int_elem (i := j) (by omega)
 refine o_val (v := .pointer (some (ad3.add (j * 1)))) (x_indexAddrA (i := (j : Int)) sl_28 rfl hA3 rfl (by omega) (by omega)) (o_val (v := .int .i64 (fa[j])) (x_load Tryz.isAgg3 rfl (hF.cell0 hk3)) (o_val (x_move rfl) (o_val (v := .bool (decide (((j : Int) : Int) < (fa[j] : Int)))) (x_gtr rfl rfl) (o_val (x_pickf rfl rfl) (o_nil (e_seq ?_))))))
 refine c_splitd (d := 39) (p := ((j : Int) : Int) < (fa[j] : Int)) rfl (fun hc2 => ?_) (fun hc2 => ?_)
 refine c_ift rfl (c_seq (c_region (o_val (x_assign rfl) (o_nil (e_seq ?_)))))
 refine c_ret (e_ret (post_ret (res_1 (v := .bool false) rfl rfl) ?_))
 refine ⟨false, rfl, ⟨fun h => (by cases h), fun h => ?_⟩, hF.same⟩
 exfalso
 have := h.2.2 j (by omega) (by omega)
 omega
 refine c_iff rfl (c_skip (e_seq (c_seq (c_region (o_val (x_assign rfl) (o_nil (e_seq (c_block ?_))))))))
 refine c_loop (fun μ σ w => ∃ (i : Nat), μ = j - i ∧ (i ≤ j) ∧ (∀ z (hz : z < j), z < i → fa[j] ≤ (z : Int) → fa[j] ≤ fa[z]) ∧ AllEq σ [(1, .pointer (some ⟨b1, 0, none⟩)), (3, .int .i64 ((j : Int))), (4, .int .i64 ((i : Int)))] ∧ FR w0 [] [(b1, .cells #[.slice (Aa) (la.length) (ca), .slice (Ba) (fa.length) (ea)] 30)] w) _ ⟨0, rfl, (Nat.zero_le _), (fun z hz h => by omega), ⟨rfl, rfl, rfl, trivial⟩, hF⟩ ?_
 clear hF; rintro μ σ w ⟨i, rfl, hi, hcl, hs, hF⟩
 refine Cg.slots hs ?_
 clear hs; intro σ
 refine c_seq (c_seq (c_region (o_val (x_move rfl) (o_val (x_move rfl) (o_val (v := .bool (decide (((i : Int) : Int) < ((j : Int) : Int)))) (x_lss rfl rfl) (o_nil (e_seq ?_)))))))
 refine c_splitd (d := 42) (p := ((i : Int) : Int) < ((j : Int) : Int)) rfl (fun hc3 => ?_) (fun hc3 => ?_)
 refine c_ift rfl (c_skip (e_seq (c_seq (c_block (c_seq ?_)))))
 refine c_drawF [] (.free 0 (.free 1 (.free 2 (.free 3 (.free 4 (.free 5 (.free 6 (.free 7 (.free 8 (.free 9 (.free 10 (.free 11 (.free 12 (.free 13 (.free 14 (.free 15 (.free 16 (.free 17 (.free 18 (.free 19 .nil)))))))))))))))))))) (by kernel_rfl) hF (by kernel_rfl) (by kernel_rfl) ?_
 clear hF; rintro w hF -
 refine ⟨fun wq => FR w0 [] [(b1, .cells #[.slice (Aa) (la.length) (ca), .slice (Ba) (fa.length) (ea)] 30)] wq, hF, ?_⟩
 refine f_free rfl (v := .pointer (some ⟨b1, 1, none⟩)) (fun w hC => x_fieldAddrO fa_30_1 rfl) (f_free rfl (v := .slice (Ba) (fa.length) (ea)) (fun w hC => x_load Tryz.isAgg28 rfl (hC.cell 0 rfl rfl)) (f_free rfl (v := .int .i64 ((j : Int))) (fun w hC => x_move rfl) ?_))
 obtain ⟨ad4, hA4, hk4, hx4⟩ := hNa.int_elem (i := j) (by omega)
 refine f_free rfl (v := .pointer (some (ad4.add (j * 1)))) (fun w hC => x_indexAddrA (i := (j : Int)) sl_28 rfl hA4 rfl (by omega) (by omega)) (f_free rfl (v := .int .i64 (fa[j])) (fun w hC => x_load Tryz.isAgg3 rfl (hC.cell0 hk4)) (f_free rfl (v := .int .i64 ((i : Int))) (fun w hC => x_move rfl) (f_free rfl (v := .bool (decide ((fa[j] : Int) ≤ ((i : Int) : Int)))) (fun w hC => x_leq rfl rfl) (f_free rfl (v := .bool (decide ((fa[j] : Int) ≤ ((i : Int) : Int)))) (fun w hC => x_move rfl) ?_))))
 refine d_splitd (d := 52) (p := (fa[j] : Int) ≤ ((i : Int) : Int)) rfl (fun hg5 => ?_) (fun hg5 => ?_)
 refine f_free rfl (v := .pointer (some ⟨b1, 1, none⟩)) (fun w hC => x_fieldAddrO fa_30_1 rfl) (f_free rfl (v := .slice (Ba) (fa.length) (ea)) (fun w hC => x_load Tryz.isAgg28 rfl (hC.cell 0 rfl rfl)) (f_free rfl (v := .int .i64 ((j : Int))) (fun w hC => x_move rfl) ?_))
 obtain ⟨ad6, hA6, hk6, hx6⟩ := hNa.int_elem (i := j) (by omega)
 refine f_free rfl (v := .pointer (some (ad6.add (j * 1)))) (fun w hC => x_indexAddrA (i := (j : Int)) sl_28 rfl hA6 rfl (by omega) (by omega)) (f_free rfl (v := .int .i64 (fa[j])) (fun w hC => x_load Tryz.isAgg3 rfl (hC.cell0 hk6)) (f_free rfl (v := .pointer (some ⟨b1, 1, none⟩)) (fun w hC => x_fieldAddrO fa_30_1 rfl) (f_free rfl (v := .slice (Ba) (fa.length) (ea)) (fun w hC => x_load Tryz.isAgg28 rfl (hC.cell 0 rfl rfl)) (f_free rfl (v := .int .i64 ((i : Int))) (fun w hC => x_move rfl) ?_))))
 obtain ⟨ad7, hA7, hk7, hx7⟩ := hNa.int_elem (i := i) (by omega)
 refine f_free rfl (v := .pointer (some (ad7.add (i * 1)))) (fun w hC => x_indexAddrA (i := (i : Int)) sl_28 rfl hA7 rfl (by omega) (by omega)) (f_free rfl (v := .int .i64 (fa[i])) (fun w hC => x_load Tryz.isAgg3 rfl (hC.cell0 hk7)) (f_free rfl (v := .bool (decide ((fa[i] : Int) < (fa[j] : Int)))) (fun w hC => x_gtr rfl rfl) (f_free rfl (v := .bool (decide ((fa[i] : Int) < (fa[j] : Int)))) (fun w hC => x_pickt rfl rfl) (d_nil (e_seq ?_)))))
 refine c_splitd (d := 64) (p := (fa[i] : Int) < (fa[j] : Int)) rfl (fun hc4 => ?_) (fun hc4 => ?_)
 refine c_ift rfl (c_seq (c_region (o_val (x_assign rfl) (o_nil (e_seq ?_)))))
 refine c_ret (e_ret (post_ret (res_1 (v := .bool false) rfl rfl) ?_))
 refine ⟨false, rfl, ⟨fun h => (by cases h), fun h => ?_⟩, hF.same⟩
 exfalso
 have := (h.2.2 j (by omega) (by omega)).2.2 i (by omega) (by omega)
 omega
 refine c_iff rfl (c_skip (e_block (e_seq (c_region (o_val (x_move rfl) (o_val (v := .int .i64 (((i + 1 : Nat) : Int))) (x_add rfl rfl (wrap_to (by omega) (by omega) (by omega))) (o_val (x_assign rfl) (o_nil ?_))))))))
 refine e_inv ⟨_, ?_, i + 1, rfl, (by omega), (fun z hz h hle => if e : z = i then (by subst e; omega) else hcl z hz (by omega) hle), ⟨rfl, rfl, rfl, trivial⟩, hF⟩
 omega
 refine f_off rfl ?_
 refine f_off rfl ?_
 refine f_off rfl ?_
 refine f_off rfl ?_
 refine f_off rfl ?_
 refine f_off rfl ?_
 refine f_off rfl ?_
 refine f_off rfl ?_
 refine f_off rfl ?_
 refine f_off rfl ?_
 refine f_off rfl ?_
 refine f_free rfl (v := .bool false) (fun w hC => x_pickf rfl rfl) (d_nil (e_seq (c_iff rfl (c_skip (e_block (e_seq (c_region (o_val (x_move rfl) (o_val (v := .int .i64 (((i + 1 : Nat) : Int))) (x_add rfl rfl (wrap_to (by omega) (by omega) (by omega))) (o_val (x_assign rfl) (o_nil ?_)))))))))))
 refine e_inv ⟨_, ?_, i + 1, rfl, (by omega), (fun z hz h hle => if e : z = i then (by subst e; omega) else hcl z hz (by omega) hle), ⟨rfl, rfl, rfl, trivial⟩, hF⟩
 omega
 refine c_iff rfl ?_
 refine c_exit (e_exit rfl ?_)
 refine e_block (e_seq (c_region (o_val (x_move rfl) (o_val (v := .int .i64 (((j + 1 : Nat) : Int))) (x_add rfl rfl (wrap_to (by omega) (by omega) (by omega))) (o_val (x_assign rfl) (o_nil ?_))))))
 refine e_inv ⟨_, ?_, j + 1, rfl, (by omega), (hok.snoc (by omega) (by omega) (by omega) (fun z hz hle => hcl z hz (by omega) hle)), ⟨rfl, rfl, trivial⟩, hF⟩
 omega
 refine c_iff rfl ?_
 refine c_exit (e_exit rfl ?_)
 refine e_seq (c_seq (c_region (o_val (x_assign rfl) (o_nil (e_seq ?_)))))
 refine c_ret (e_ret (post_ret (res_1 (v := .bool true) rfl rfl) ?_))
 obtain rfl : j = fa.length := by omega
 exact ⟨true, rfl, ⟨fun _ => ⟨hlf5.1, hlf5.2, hok⟩, fun _ => rfl⟩, hF.same⟩
end Go.Scarf
