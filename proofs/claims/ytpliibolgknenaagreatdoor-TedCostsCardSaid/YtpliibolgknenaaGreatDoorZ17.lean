/- A part of the proof. -/
import Derived.Test.YtpliibolgknenaaGreatDoorZ16
set_option linter.all false
namespace Go.Scarf
open Go.RowKit Go.Proofs
set_option maxHeartbeats 4000000 in
set_option maxRecDepth 10000 in
theorem made_c (S S' : Nat → Prop) (w0 : World) (la : List Str) (fa : List Int) (Aa Ba : Option Addr) (ca ea : Nat) (hLa : Rep S w0 (strsD la) [.slice Aa la.length ca]) (hNa : Rep S w0 (.slice (fa.map intD)) [.slice Ba fa.length ea]) (lb : List Str) (fb : List Int) (Ab Bb : Option Addr) (cb eb : Nat) (hLb : Rep S' w0 (strsD lb) [.slice Ab lb.length cb]) (hNb : Rep S' w0 (.slice (fb.map intD)) [.slice Bb fb.length eb]) (ha8 : la.length ≤ 80) (hb8 : lb.length ≤ 80) : Calls Tryz.prog 35 #[.agg #[.slice Aa la.length ca, .slice Ba fa.length ea], .agg #[.slice Ab lb.length cb, .slice Bb fb.length eb]] w0 (Ret fun v w' => ∃ tb hb gb : Nat, v = .pointer (some ⟨tb, 0, none⟩) ∧ Tk w' w'.heap.size tb hb gb la fa lb fb Aa Ba Ab Bb ca ea cb eb ((la.length + 1) * (la.length + 1) * (lb.length + 1) * (lb.length + 1)) (fun _ => false) (fun _ => 0) ∧ w0.heap.size ≤ hb ∧ w0.heap.size ≤ gb ∧ Same [] w0 w') := by
 have hLla := hLa.slice_len
 have hNla := hNa.slice_len
 rw [List.length_map] at hLla hNla
 have hLlb := hLb.slice_len
 have hNlb := hNb.slice_len
 rw [List.length_map] at hLlb hNlb
 have hN := gx_max ha8 hb8
 have hN1 : (la.length + 1) * (la.length + 1) ≤ (la.length + 1) * (la.length + 1) * (lb.length + 1) := Nat.le_mul_of_pos_right _ (by omega)
 have hN2 : (la.length + 1) * (la.length + 1) * (lb.length + 1) ≤ ((la.length + 1) * (la.length + 1) * (lb.length + 1) * (lb.length + 1)) := Nat.le_mul_of_pos_right _ (by omega)
 refine calls_start Tryz.func35 rfl Tryz.ntmps35 (Nat.le_of_ble_eq_true rfl) (args_2 _ _) ?_
 have hF := FR.start w0 []
 refine c_seq (c_region ?_)
 refine o_box (v := .agg #[.slice (Aa) (la.length) (ca), .slice (Ba) (fa.length) (ea)]) (cs := #[.slice (Aa) (la.length) (ca), .slice (Ba) (fa.length) (ea)]) hF rfl rfl ?_
 clear hF; rintro b1 w hb1 hF -
 refine o_box (v := .agg #[.slice (Ab) (lb.length) (cb), .slice (Bb) (fb.length) (eb)]) (cs := #[.slice (Ab) (lb.length) (cb), .slice (Bb) (fb.length) (eb)]) hF rfl rfl ?_
 clear hF; rintro b2 w hb2 hF -
 refine o_val (x_assign rfl) (o_nil (e_seq (c_seq (c_region (o_val (v := .pointer (some ⟨b1, 0, none⟩)) (x_fieldAddrO fa_30_0 rfl) (o_val (v := .slice (Aa) (la.length) (ca)) (x_load Tryz.isAgg22 rfl (hF.cell 1 rfl rfl)) (o_val (v := .int .i64 ((la.length : Nat))) (x_len_slice Tryz.underlying22 rfl) (o_val (x_assign rfl) (o_nil (e_seq (c_seq (c_region (o_val (v := .pointer (some ⟨b2, 0, none⟩)) (x_fieldAddrO fa_30_0 rfl) ?_)))))))))))))
 refine o_val (v := .slice (Ab) (lb.length) (cb)) (x_load Tryz.isAgg22 rfl (hF.cell 0 rfl rfl)) (o_val (v := .int .i64 ((lb.length : Nat))) (x_len_slice Tryz.underlying22 rfl) (o_val (x_assign rfl) (o_nil (e_seq (c_seq (c_region (o_val (x_move rfl) (o_val (v := .int .i64 (((la.length + 1 : Nat) : Int))) (x_add rfl rfl (wrap_to (by omega) (by omega) (by omega))) (o_val (x_move rfl) (o_val (v := .int .i64 (((la.length + 1 : Nat) : Int))) (x_add rfl rfl (wrap_to (by omega) (by omega) (by omega))) ?_))))))))))
 refine o_val (v := .int .i64 ((((la.length + 1) * (la.length + 1) : Nat) : Int))) (x_mul rfl rfl (wrap_to (by simp only [Int.natCast_mul]) (by omega) (by omega))) ?_
 refine o_val (x_move rfl) (o_val (v := .int .i64 (((lb.length + 1 : Nat) : Int))) (x_add rfl rfl (wrap_to (by omega) (by omega) (by omega))) ?_)
 refine o_val (v := .int .i64 ((((la.length + 1) * (la.length + 1) * (lb.length + 1) : Nat) : Int))) (x_mul rfl rfl (wrap_to (by simp only [Int.natCast_mul]) (by omega) (by omega))) ?_
 refine o_val (x_move rfl) (o_val (v := .int .i64 (((lb.length + 1 : Nat) : Int))) (x_add rfl rfl (wrap_to (by omega) (by omega) (by omega))) ?_)
 refine o_val (v := .int .i64 ((((la.length + 1) * (la.length + 1) * (lb.length + 1) * (lb.length + 1)) : Nat))) (x_mul rfl rfl (wrap_to (by simp only [Int.natCast_mul]) (by omega) (by omega))) ?_
 refine o_val (x_assign rfl) (o_nil (e_seq (c_seq ?_)))
 refine c_drawF [] (.free 0 (.free 1 (.free 2 (.free 3 (.free 4 (.free 6 (.alt 5 (.act 7 (.free 8 (.act 9 (.free 10 .nil)))) (.act 7 (.act 5 (.free 8 (.act 9 (.free 10 .nil)))))))))))) (by kernel_rfl) hF (by kernel_rfl) (by kernel_rfl) ?_
 clear hF; rintro w hF -
 refine ⟨fun wq => FR w0 [] [(b2, .cells #[.slice (Ab) (lb.length) (cb), .slice (Bb) (fb.length) (eb)] 30), (b1, .cells #[.slice (Aa) (la.length) (ca), .slice (Ba) (fa.length) (ea)] 30)] wq, hF, ?_⟩
 refine f_free rfl (v := .agg #[.slice (Aa) (la.length) (ca), .slice (Ba) (fa.length) (ea)]) (fun w hC => x_loadS (l := [.slice (Aa) (la.length) (ca), .slice (Ba) (fa.length) (ea)]) Tryz.isAgg30 Tryz.sizeOf30 rfl rfl (hC.cellsAll 1 rfl)) (f_free rfl (v := .agg #[.slice (Ab) (lb.length) (cb), .slice (Bb) (fb.length) (eb)]) (fun w hC => x_loadS (l := [.slice (Ab) (lb.length) (cb), .slice (Bb) (fb.length) (eb)]) Tryz.isAgg30 Tryz.sizeOf30 rfl rfl (hC.cellsAll 0 rfl)) (f_free rfl (v := .int .i64 ((la.length : Nat))) (fun w hC => x_move rfl) (f_free rfl (v := .int .i64 ((lb.length : Nat))) (fun w hC => x_move rfl) (f_free rfl (v := .int .i64 ((((la.length + 1) * (la.length + 1) * (lb.length + 1) * (lb.length + 1)) : Nat))) (fun w hC => x_move rfl) (f_free rfl (v := .int .i64 ((((la.length + 1) * (la.length + 1) * (lb.length + 1) * (lb.length + 1)) : Nat))) (fun w hC => x_move rfl) ?_)))))
 refine d_alt ?_ ?_
 refine f_new rfl (v := fun b => .slice (some ⟨b, 0, none⟩) (((la.length + 1) * (la.length + 1) * (lb.length + 1) * (lb.length + 1))) (((la.length + 1) * (la.length + 1) * (lb.length + 1) * (lb.length + 1)))) (o := .cells (List.replicate (((la.length + 1) * (la.length + 1) * (lb.length + 1) * (lb.length + 1))) (.bool false)).toArray 4) hF (x_make1 (z := .bool false) el_85 (by kernel_rfl) rfl rfl rfl (by omega) (by decide)) ?_
 clear hF; rintro b3 w hb3 hF -
 refine ⟨hF.sub (.cons _ (.cons_cons _ (.cons_cons _ .slnil))), ?_⟩
 refine f_new rfl (v := fun b => .slice (some ⟨b, 0, none⟩) (((la.length + 1) * (la.length + 1) * (lb.length + 1) * (lb.length + 1))) (((la.length + 1) * (la.length + 1) * (lb.length + 1) * (lb.length + 1)))) (o := .cells (intsA (((la.length + 1) * (la.length + 1) * (lb.length + 1) * (lb.length + 1))) fun _ => 0) 3) hF (x_makeI el_28 (by kernel_rfl) rfl rfl (by omega)) ?_
 clear hF; rintro b4 w hb4 hF -
 refine ⟨hF.sub (.cons _ (.cons _ (.cons_cons _ (.cons_cons _ .slnil)))), ?_⟩
 refine f_free rfl (v := .agg #[.slice (Aa) (la.length) (ca), .slice (Ba) (fa.length) (ea), .slice (Ab) (lb.length) (cb), .slice (Bb) (fb.length) (eb), .int .i64 ((la.length : Nat)), .int .i64 ((lb.length : Nat)), .slice (some ⟨b3, 0, none⟩) (((la.length + 1) * (la.length + 1) * (lb.length + 1) * (lb.length + 1))) (((la.length + 1) * (la.length + 1) * (lb.length + 1) * (lb.length + 1))), .slice (some ⟨b4, 0, none⟩) (((la.length + 1) * (la.length + 1) * (lb.length + 1) * (lb.length + 1))) (((la.length + 1) * (la.length + 1) * (lb.length + 1) * (lb.length + 1)))]) (fun w hC => by kernel_rfl) ?_
 refine f_new rfl (v := fun b => .pointer (some ⟨b, 0, none⟩)) (o := .cells #[.slice (Aa) (la.length) (ca), .slice (Ba) (fa.length) (ea), .slice (Ab) (lb.length) (cb), .slice (Bb) (fb.length) (eb), .int .i64 ((la.length : Nat)), .int .i64 ((lb.length : Nat)), .slice (some ⟨b3, 0, none⟩) (((la.length + 1) * (la.length + 1) * (lb.length + 1) * (lb.length + 1))) (((la.length + 1) * (la.length + 1) * (lb.length + 1) * (lb.length + 1))), .slice (some ⟨b4, 0, none⟩) (((la.length + 1) * (la.length + 1) * (lb.length + 1) * (lb.length + 1))) (((la.length + 1) * (la.length + 1) * (lb.length + 1) * (lb.length + 1)))] 87) hF (x_box (v := .agg #[.slice (Aa) (la.length) (ca), .slice (Ba) (fa.length) (ea), .slice (Ab) (lb.length) (cb), .slice (Bb) (fb.length) (eb), .int .i64 ((la.length : Nat)), .int .i64 ((lb.length : Nat)), .slice (some ⟨b3, 0, none⟩) (((la.length + 1) * (la.length + 1) * (lb.length + 1) * (lb.length + 1))) (((la.length + 1) * (la.length + 1) * (lb.length + 1) * (lb.length + 1))), .slice (some ⟨b4, 0, none⟩) (((la.length + 1) * (la.length + 1) * (lb.length + 1) * (lb.length + 1))) (((la.length + 1) * (la.length + 1) * (lb.length + 1) * (lb.length + 1)))]) rfl) ?_
 clear hF; rintro b5 w hb5 hF -
 refine ⟨hF.sub (.cons _ (.cons _ (.cons _ (.cons_cons _ (.cons_cons _ .slnil))))), ?_⟩
 refine f_free rfl (v := .pointer (some ⟨b5, 0, none⟩)) (fun w hC => x_assign rfl) (d_nil (e_seq ?_))
 refine c_ret (e_ret (post_ret (res_1 (v := .pointer (some ⟨b5, 0, none⟩)) rfl rfl) ?_))
 have hid : ∀ {i b : Nat} {o : Obj}, ([(b5, .cells #[.slice (Aa) (la.length) (ca), .slice (Ba) (fa.length) (ea), .slice (Ab) (lb.length) (cb), .slice (Bb) (fb.length) (eb), .int .i64 ((la.length : Nat)), .int .i64 ((lb.length : Nat)), .slice (some ⟨b3, 0, none⟩) (((la.length + 1) * (la.length + 1) * (lb.length + 1) * (lb.length + 1))) (((la.length + 1) * (la.length + 1) * (lb.length + 1) * (lb.length + 1))), .slice (some ⟨b4, 0, none⟩) (((la.length + 1) * (la.length + 1) * (lb.length + 1) * (lb.length + 1))) (((la.length + 1) * (la.length + 1) * (lb.length + 1) * (lb.length + 1)))] 87), (b4, .cells (intsA (((la.length + 1) * (la.length + 1) * (lb.length + 1) * (lb.length + 1))) (fun _ => 0)) 3), (b3, .cells (List.replicate (((la.length + 1) * (la.length + 1) * (lb.length + 1) * (lb.length + 1))) (.bool false)).toArray 4), (b2, .cells #[.slice (Ab) (lb.length) (cb), .slice (Bb) (fb.length) (eb)] 30), (b1, .cells #[.slice (Aa) (la.length) (ca), .slice (Ba) (fa.length) (ea)] 30)] : List (Nat × Obj))[i]? = some (b, o) → b < w.heap.size := fun h => hF.lt h
 have d1 := List.pairwise_iff_getElem.1 hF.desc
 have hsb : ∀ b, b < w0.heap.size → Sb w.heap.size b3 b4 b := fun b hb_ => ⟨by have := hF.same.size; omega, by have := hF.ge (i := 2) rfl; omega, by have := hF.ge (i := 1) rfl; omega⟩
 refine ⟨b5, b3, b4, rfl, ⟨hF.heap (i := 0) rfl, (hF.rep hLa.old).weaken (fun b hb _ => hsb b hb.2), (hF.rep hNa.old).weaken (fun b hb _ => hsb b hb.2), (hF.rep hLb.old).weaken (fun b hb _ => hsb b hb.2), (hF.rep hNb.old).weaken (fun b hb _ => hsb b hb.2), by rw [← boolsA_zero]; exact hF.heap (i := 2) rfl, hF.heap (i := 1) rfl, ⟨fun e => d1 0 2 (by simp) (by simp) (by omega) e.symm, fun e => d1 0 1 (by simp) (by simp) (by omega) e.symm, fun e => d1 1 2 (by simp) (by simp) (by omega) e⟩, ⟨hid (i := 0) rfl, hid (i := 2) rfl, hid (i := 1) rfl⟩⟩, hF.ge (i := 2) rfl, hF.ge (i := 1) rfl, hF.same⟩
 refine f_new rfl (v := fun b => .slice (some ⟨b, 0, none⟩) (((la.length + 1) * (la.length + 1) * (lb.length + 1) * (lb.length + 1))) (((la.length + 1) * (la.length + 1) * (lb.length + 1) * (lb.length + 1)))) (o := .cells (intsA (((la.length + 1) * (la.length + 1) * (lb.length + 1) * (lb.length + 1))) fun _ => 0) 3) hF (x_makeI el_28 (by kernel_rfl) rfl rfl (by omega)) ?_
 clear hF; rintro b6 w hb6 hF -
 refine ⟨hF.sub (.cons _ (.cons_cons _ (.cons_cons _ .slnil))), ?_⟩
 refine f_new rfl (v := fun b => .slice (some ⟨b, 0, none⟩) (((la.length + 1) * (la.length + 1) * (lb.length + 1) * (lb.length + 1))) (((la.length + 1) * (la.length + 1) * (lb.length + 1) * (lb.length + 1)))) (o := .cells (List.replicate (((la.length + 1) * (la.length + 1) * (lb.length + 1) * (lb.length + 1))) (.bool false)).toArray 4) hF (x_make1 (z := .bool false) el_85 (by kernel_rfl) rfl rfl rfl (by omega) (by decide)) ?_
 clear hF; rintro b7 w hb7 hF -
 refine ⟨hF.sub (.cons _ (.cons _ (.cons_cons _ (.cons_cons _ .slnil)))), ?_⟩
 refine f_free rfl (v := .agg #[.slice (Aa) (la.length) (ca), .slice (Ba) (fa.length) (ea), .slice (Ab) (lb.length) (cb), .slice (Bb) (fb.length) (eb), .int .i64 ((la.length : Nat)), .int .i64 ((lb.length : Nat)), .slice (some ⟨b7, 0, none⟩) (((la.length + 1) * (la.length + 1) * (lb.length + 1) * (lb.length + 1))) (((la.length + 1) * (la.length + 1) * (lb.length + 1) * (lb.length + 1))), .slice (some ⟨b6, 0, none⟩) (((la.length + 1) * (la.length + 1) * (lb.length + 1) * (lb.length + 1))) (((la.length + 1) * (la.length + 1) * (lb.length + 1) * (lb.length + 1)))]) (fun w hC => by kernel_rfl) ?_
 refine f_new rfl (v := fun b => .pointer (some ⟨b, 0, none⟩)) (o := .cells #[.slice (Aa) (la.length) (ca), .slice (Ba) (fa.length) (ea), .slice (Ab) (lb.length) (cb), .slice (Bb) (fb.length) (eb), .int .i64 ((la.length : Nat)), .int .i64 ((lb.length : Nat)), .slice (some ⟨b7, 0, none⟩) (((la.length + 1) * (la.length + 1) * (lb.length + 1) * (lb.length + 1))) (((la.length + 1) * (la.length + 1) * (lb.length + 1) * (lb.length + 1))), .slice (some ⟨b6, 0, none⟩) (((la.length + 1) * (la.length + 1) * (lb.length + 1) * (lb.length + 1))) (((la.length + 1) * (la.length + 1) * (lb.length + 1) * (lb.length + 1)))] 87) hF (x_box (v := .agg #[.slice (Aa) (la.length) (ca), .slice (Ba) (fa.length) (ea), .slice (Ab) (lb.length) (cb), .slice (Bb) (fb.length) (eb), .int .i64 ((la.length : Nat)), .int .i64 ((lb.length : Nat)), .slice (some ⟨b7, 0, none⟩) (((la.length + 1) * (la.length + 1) * (lb.length + 1) * (lb.length + 1))) (((la.length + 1) * (la.length + 1) * (lb.length + 1) * (lb.length + 1))), .slice (some ⟨b6, 0, none⟩) (((la.length + 1) * (la.length + 1) * (lb.length + 1) * (lb.length + 1))) (((la.length + 1) * (la.length + 1) * (lb.length + 1) * (lb.length + 1)))]) rfl) ?_
 clear hF; rintro b8 w hb8 hF -
 refine ⟨hF.sub (.cons _ (.cons _ (.cons _ (.cons_cons _ (.cons_cons _ .slnil))))), ?_⟩
 refine f_free rfl (v := .pointer (some ⟨b8, 0, none⟩)) (fun w hC => x_assign rfl) (d_nil (e_seq ?_))
 refine c_ret (e_ret (post_ret (res_1 (v := .pointer (some ⟨b8, 0, none⟩)) rfl rfl) ?_))
 have hid : ∀ {i b : Nat} {o : Obj}, ([(b8, .cells #[.slice (Aa) (la.length) (ca), .slice (Ba) (fa.length) (ea), .slice (Ab) (lb.length) (cb), .slice (Bb) (fb.length) (eb), .int .i64 ((la.length : Nat)), .int .i64 ((lb.length : Nat)), .slice (some ⟨b7, 0, none⟩) (((la.length + 1) * (la.length + 1) * (lb.length + 1) * (lb.length + 1))) (((la.length + 1) * (la.length + 1) * (lb.length + 1) * (lb.length + 1))), .slice (some ⟨b6, 0, none⟩) (((la.length + 1) * (la.length + 1) * (lb.length + 1) * (lb.length + 1))) (((la.length + 1) * (la.length + 1) * (lb.length + 1) * (lb.length + 1)))] 87), (b7, .cells (List.replicate (((la.length + 1) * (la.length + 1) * (lb.length + 1) * (lb.length + 1))) (.bool false)).toArray 4), (b6, .cells (intsA (((la.length + 1) * (la.length + 1) * (lb.length + 1) * (lb.length + 1))) (fun _ => 0)) 3), (b2, .cells #[.slice (Ab) (lb.length) (cb), .slice (Bb) (fb.length) (eb)] 30), (b1, .cells #[.slice (Aa) (la.length) (ca), .slice (Ba) (fa.length) (ea)] 30)] : List (Nat × Obj))[i]? = some (b, o) → b < w.heap.size := fun h => hF.lt h
 have d1 := List.pairwise_iff_getElem.1 hF.desc
 have hsb : ∀ b, b < w0.heap.size → Sb w.heap.size b7 b6 b := fun b hb_ => ⟨by have := hF.same.size; omega, by have := hF.ge (i := 1) rfl; omega, by have := hF.ge (i := 2) rfl; omega⟩
 refine ⟨b8, b7, b6, rfl, ⟨hF.heap (i := 0) rfl, (hF.rep hLa.old).weaken (fun b hb _ => hsb b hb.2), (hF.rep hNa.old).weaken (fun b hb _ => hsb b hb.2), (hF.rep hLb.old).weaken (fun b hb _ => hsb b hb.2), (hF.rep hNb.old).weaken (fun b hb _ => hsb b hb.2), by rw [← boolsA_zero]; exact hF.heap (i := 1) rfl, hF.heap (i := 2) rfl, ⟨fun e => d1 0 1 (by simp) (by simp) (by omega) e.symm, fun e => d1 0 2 (by simp) (by simp) (by omega) e.symm, fun e => d1 1 2 (by simp) (by simp) (by omega) e.symm⟩, ⟨hid (i := 0) rfl, hid (i := 1) rfl, hid (i := 2) rfl⟩⟩, hF.ge (i := 1) rfl, hF.ge (i := 2) rfl, hF.same⟩
set_option maxHeartbeats 1000000 in
set_option maxRecDepth 10000 in
theorem rcost_no (S S' : Nat → Prop) (w0 : World) (la : List Str) (fa : List Int) (Aa Ba : Option Addr) (ca ea : Nat) (hLa : Rep S w0 (strsD la) [.slice Aa la.length ca]) (hNa : Rep S w0 (.slice (fa.map intD)) [.slice Ba fa.length ea]) (lb : List Str) (fb : List Int) (Ab Bb : Option Addr) (cb eb : Nat) (hLb : Rep S' w0 (strsD lb) [.slice Ab lb.length cb]) (hNb : Rep S' w0 (.slice (fb.map intD)) [.slice Bb fb.length eb]) (hR : ¬ (RightT la fa ∧ RightT lb fb)) : Calls Tryz.prog 18 #[.agg #[.slice Aa la.length ca, .slice Ba fa.length ea], .agg #[.slice Ab lb.length cb, .slice Bb fb.length eb]] w0 (Ret fun v w' => v = .tuple #[.int .i64 0, .int .i64 1] ∧ Same [] w0 w') := by
 have hLla := hLa.slice_len
 have hNla := hNa.slice_len
 rw [List.length_map] at hLla hNla
 have hLlb := hLb.slice_len
 have hNlb := hNb.slice_len
 rw [List.length_map] at hLlb hNlb
 refine calls_start Tryz.func18 rfl Tryz.ntmps18 (Nat.le_of_ble_eq_true rfl) (args_2 _ _) ?_
 have hF := FR.start w0 []
 refine c_seq (c_region ?_)
 refine o_box (v := .agg #[.slice (Aa) (la.length) (ca), .slice (Ba) (fa.length) (ea)]) (cs := #[.slice (Aa) (la.length) (ca), .slice (Ba) (fa.length) (ea)]) hF rfl rfl ?_
 clear hF; rintro b1 w hb1 hF -
 refine o_box (v := .agg #[.slice (Ab) (lb.length) (cb), .slice (Bb) (fb.length) (eb)]) (cs := #[.slice (Ab) (lb.length) (cb), .slice (Bb) (fb.length) (eb)]) hF rfl rfl ?_
 clear hF; rintro b2 w hb2 hF -
 refine o_val (x_assign rfl) (o_val (x_assign rfl) (o_nil (e_seq (c_seq (c_region (o_val (v := .agg #[.slice (Aa) (la.length) (ca), .slice (Ba) (fa.length) (ea)]) (x_loadS (l := [.slice (Aa) (la.length) (ca), .slice (Ba) (fa.length) (ea)]) Tryz.isAgg30 Tryz.sizeOf30 rfl rfl (hF.cellsAll 1 rfl)) ?_))))))
 refine o_call (rright15_c _ _ la fa Aa Ba ca ea (hF.rep hLa) (hF.rep hNa)) (x_call1 en_34 rfl rfl) ?_
 rintro _ w ⟨ra, rfl, hra, hE⟩
 replace hF := hF.ext hE
 clear hE
 refine o_val (x_assign rfl) (o_nil (e_seq (c_seq (c_region (o_val (v := .agg #[.slice (Ab) (lb.length) (cb), .slice (Bb) (fb.length) (eb)]) (x_loadS (l := [.slice (Ab) (lb.length) (cb), .slice (Bb) (fb.length) (eb)]) Tryz.isAgg30 Tryz.sizeOf30 rfl rfl (hF.cellsAll 0 rfl)) ?_)))))
 refine o_call (rright15_c _ _ lb fb Ab Bb cb eb (hF.rep hLb) (hF.rep hNb)) (x_call1 en_34 rfl rfl) ?_
 rintro _ w ⟨rb, rfl, hrb, hE⟩
 replace hF := hF.ext hE
 clear hE
 refine o_val (x_assign rfl) (o_nil (e_seq (c_seq (c_seq (c_region (o_val (x_move rfl) (o_val (v := .bool (!(ra))) (x_not rfl) (o_val (x_move rfl) ?_))))))))
 refine o_split (d := 14) (b := !(ra)) rfl (fun hg0 => ?_) (fun hg0 => ?_)
 refine o_off (o_off (o_val (x_pickt rfl rfl) (o_nil (e_seq (c_ift rfl (c_seq (c_region (o_val (x_assign rfl) (o_val (x_assign rfl) (o_nil (e_seq ?_)))))))))))
 refine c_ret (e_ret (post_ret (res_2 (v := .int .i64 (0)) (x := .int .i64 (1)) rfl rfl rfl) ?_))
 exact ⟨rfl, hF.same⟩
 refine o_val (x_move rfl) (o_val (v := .bool (!(rb))) (x_not rfl) (o_val (x_pickf rfl rfl) (o_nil (e_seq ?_))))
 refine c_split (d := 17) (b := !(rb)) rfl (fun hc0 => ?_) (fun hc0 => ?_)
 refine c_ift rfl (c_seq (c_region (o_val (x_assign rfl) (o_val (x_assign rfl) (o_nil (e_seq ?_))))))
 refine c_ret (e_ret (post_ret (res_2 (v := .int .i64 (0)) (x := .int .i64 (1)) rfl rfl rfl) ?_))
 exact ⟨rfl, hF.same⟩
 exact absurd ⟨hra.1 (by simp_all), hrb.1 (by simp_all)⟩ hR
set_option maxHeartbeats 4000000 in
set_option maxRecDepth 10000 in
theorem rcost_yes (S S' : Nat → Prop) (w0 : World) (la : List Str) (fa : List Int) (Aa Ba : Option Addr) (ca ea : Nat) (hLa : Rep S w0 (strsD la) [.slice Aa la.length ca]) (hNa : Rep S w0 (.slice (fa.map intD)) [.slice Ba fa.length ea]) (lb : List Str) (fb : List Int) (Ab Bb : Option Addr) (cb eb : Nat) (hLb : Rep S' w0 (strsD lb) [.slice Ab lb.length cb]) (hNb : Rep S' w0 (.slice (fb.map intD)) [.slice Bb fb.length eb]) (hRa : RightT la fa) (hRb : RightT lb fb) (ha8 : la.length ≤ 80) (hb8 : lb.length ≤ 80) : Calls Tryz.prog 18 #[.agg #[.slice Aa la.length ca, .slice Ba fa.length ea], .agg #[.slice Ab lb.length cb, .slice Bb fb.length eb]] w0 (Ret fun v w' => v = .tuple #[.int .i64 ((costT la fa lb fb : Nat) : Int), .int .i64 0] ∧ Same [] w0 w') := by
 have hLla := hLa.slice_len
 have hNla := hNa.slice_len
 rw [List.length_map] at hLla hNla
 have hLlb := hLb.slice_len
 have hNlb := hNb.slice_len
 rw [List.length_map] at hLlb hNlb
 refine calls_start Tryz.func18 rfl Tryz.ntmps18 (Nat.le_of_ble_eq_true rfl) (args_2 _ _) ?_
 have hF := FR.start w0 []
 refine c_seq (c_region ?_)
 refine o_box (v := .agg #[.slice (Aa) (la.length) (ca), .slice (Ba) (fa.length) (ea)]) (cs := #[.slice (Aa) (la.length) (ca), .slice (Ba) (fa.length) (ea)]) hF rfl rfl ?_
 clear hF; rintro b1 w hb1 hF -
 refine o_box (v := .agg #[.slice (Ab) (lb.length) (cb), .slice (Bb) (fb.length) (eb)]) (cs := #[.slice (Ab) (lb.length) (cb), .slice (Bb) (fb.length) (eb)]) hF rfl rfl ?_
 clear hF; rintro b2 w hb2 hF -
 refine o_val (x_assign rfl) (o_val (x_assign rfl) (o_nil (e_seq (c_seq (c_region (o_val (v := .agg #[.slice (Aa) (la.length) (ca), .slice (Ba) (fa.length) (ea)]) (x_loadS (l := [.slice (Aa) (la.length) (ca), .slice (Ba) (fa.length) (ea)]) Tryz.isAgg30 Tryz.sizeOf30 rfl rfl (hF.cellsAll 1 rfl)) ?_))))))
 refine o_call (rright15_c _ _ la fa Aa Ba ca ea (hF.rep hLa) (hF.rep hNa)) (x_call1 en_34 rfl rfl) ?_
 rintro _ w ⟨b, rfl, hb, hE⟩
 obtain rfl : b = true := hb.2 hRa
 replace hF := hF.ext hE
 clear hE
 refine o_val (x_assign rfl) (o_nil (e_seq (c_seq (c_region (o_val (v := .agg #[.slice (Ab) (lb.length) (cb), .slice (Bb) (fb.length) (eb)]) (x_loadS (l := [.slice (Ab) (lb.length) (cb), .slice (Bb) (fb.length) (eb)]) Tryz.isAgg30 Tryz.sizeOf30 rfl rfl (hF.cellsAll 0 rfl)) ?_)))))
 refine o_call (rright15_c _ _ lb fb Ab Bb cb eb (hF.rep hLb) (hF.rep hNb)) (x_call1 en_34 rfl rfl) ?_
 rintro _ w ⟨b, rfl, hb, hE⟩
 obtain rfl : b = true := hb.2 hRb
 replace hF := hF.ext hE
 clear hE
 refine o_val (x_assign rfl) (o_nil (e_seq (c_seq (c_seq (c_region (o_val (x_move rfl) (o_val (v := .bool false) (x_not (b := true) rfl) (o_val (x_move rfl) (o_val (x_move rfl) (o_val (v := .bool false) (x_not (b := true) rfl) (o_val (x_pickf rfl rfl) (o_nil (e_seq ?_)))))))))))))
 refine c_iff rfl (c_skip (e_seq (c_seq ?_)))
 refine c_drawF [] (.free 0 (.free 1 (.free 3 (.free 4 (.free 5 (.free 6 (.free 7 (.free 8 (.act 2 (.act 9 (.free 10 (.free 11 .nil)))))))))))) (by kernel_rfl) hF (by kernel_rfl) (by kernel_rfl) ?_
 clear hF; rintro w hF -
 refine ⟨fun wq => FR w0 [] [(b2, .cells #[.slice (Ab) (lb.length) (cb), .slice (Bb) (fb.length) (eb)] 30), (b1, .cells #[.slice (Aa) (la.length) (ca), .slice (Ba) (fa.length) (ea)] 30)] wq, hF, ?_⟩
 refine f_free rfl (v := .agg #[.slice (Aa) (la.length) (ca), .slice (Ba) (fa.length) (ea)]) (fun w hC => x_loadS (l := [.slice (Aa) (la.length) (ca), .slice (Ba) (fa.length) (ea)]) Tryz.isAgg30 Tryz.sizeOf30 rfl rfl (hC.cellsAll 1 rfl)) (f_free rfl (v := .agg #[.slice (Ab) (lb.length) (cb), .slice (Bb) (fb.length) (eb)]) (fun w hC => x_loadS (l := [.slice (Ab) (lb.length) (cb), .slice (Bb) (fb.length) (eb)]) Tryz.isAgg30 Tryz.sizeOf30 rfl rfl (hC.cellsAll 0 rfl)) (f_free rfl (v := .pointer (some ⟨b1, 0, none⟩)) (fun w hC => x_fieldAddrO fa_30_0 rfl) (f_free rfl (v := .slice (Aa) (la.length) (ca)) (fun w hC => x_load Tryz.isAgg22 rfl (hC.cell 1 rfl rfl)) (f_free rfl (v := .int .i64 ((la.length : Nat))) (fun w hC => x_len_slice Tryz.underlying22 rfl) (f_free rfl (v := .pointer (some ⟨b2, 0, none⟩)) (fun w hC => x_fieldAddrO fa_30_0 rfl) (f_free rfl (v := .slice (Ab) (lb.length) (cb)) (fun w hC => x_load Tryz.isAgg22 rfl (hC.cell 0 rfl rfl)) (f_free rfl (v := .int .i64 ((lb.length : Nat))) (fun w hC => x_len_slice Tryz.underlying22 rfl) ?_)))))))
 have lb1 := hF.lt (i := 1) rfl
 have lb2 := hF.lt (i := 0) rfl
 refine f_call rfl (made_c _ _ _ la fa Aa Ba ca ea (hF.rep hLa) (hF.rep hNa) lb fb Ab Bb cb eb (hF.rep hLb) (hF.rep hNb) ha8 hb8) (x_call2 en_35 rfl rfl rfl) ?_
 rintro _ w ⟨tb, hb, gb, rfl, hT, hgh, hgc, hE⟩
 have hs0 := hF.same.size
 replace hF := hF.ext hE
 clear hE
 refine ⟨hF, ?_⟩
 refine f_call rfl (between16_c w.heap.size tb hb gb la fa lb fb Aa Ba Ab Bb ca ea cb eb ((la.length + 1) * (la.length + 1) * (lb.length + 1) * (lb.length + 1)) rfl (gx_max ha8 hb8) hRa.1 hRb.1 hRa.2.2 hRb.2.2 hRa.2.1 hRb.2.1 _ 0 la.length 0 lb.length (Nat.le_refl _) (Nat.zero_le _) (Nat.le_refl _) (Nat.zero_le _) (Nat.le_refl _) _ _ _ (Nat.le_refl _) hT (fun i k j l _ _ _ _ h => by cases h)) (x_call5 en_36 rfl rfl rfl rfl rfl rfl) ?_
 rintro _ w ⟨h_, f_, rfl, -, -, hE⟩
 replace hF := hF.touch hE (fun b hb_ => by simp only [List.mem_cons, List.not_mem_nil, or_false] at hb_; rcases hb_ with rfl | rfl <;> (refine ⟨fun h => absurd h (by omega), fun z hz e => ?_⟩; simp only [List.mem_cons, List.not_mem_nil, or_false] at hz; rcases hz with rfl | rfl <;> (simp only at e; omega)))
 clear hE
 refine ⟨hF, ?_⟩
 refine f_free rfl (v := .int .i64 ((costT la fa lb fb : Nat))) (fun w hC => x_assign rfl) (f_free rfl (v := .int .i64 (0)) (fun w hC => x_assign rfl) (d_nil (e_seq ?_)))
 refine c_ret (e_ret (post_ret (res_2 (v := .int .i64 ((costT la fa lb fb : Nat))) (x := .int .i64 (0)) rfl rfl rfl) ?_))
 exact ⟨rfl, hF.same⟩
end Go.Scarf
