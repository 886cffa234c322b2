/- A part of the proof. -/
import Derived.Test.YtonoededmmohhaaGreatDoorW16
set_option linter.all false
namespace Go.Scarf
open Go.RowKit Go.Proofs
mutual
def eqT : Tree → Tree → Bool
  | .node k t ks xs, .node k' t' ks' ys => decide (k = k') && decide (t = t') && decide (ks = ks') && eqTs xs ys
def eqTs : List Tree → List Tree → Bool
  | [], [] => true
  | x :: xs, y :: ys => eqT x y && eqTs xs ys
  | _, _ => false
end
theorem eqTs_of : ∀ {xs ys : List Tree}, (∀ x ∈ xs, ∀ y, eqT x y = true ↔ x = y) → (eqTs xs ys = true ↔ xs = ys)
  | [], [], _ => by simp [eqTs]
  | [], _ :: _, _ => by simp [eqTs]
  | _ :: _, [], _ => by simp [eqTs]
  | x :: xs, y :: ys, h => by
    rw [eqTs, Bool.and_eq_true, h x (by simp) y, eqTs_of (fun z hz => h z (by simp [hz]))]
    simp
theorem eqT_iff (x : Tree) : ∀ y, eqT x y = true ↔ x = y := Tree.ind (Q := fun x => ∀ y, eqT x y = true ↔ x = y) (fun k t ks xs ih y => by
  obtain ⟨k', t', ks', ys⟩ := y
  rw [eqT, Bool.and_eq_true, Bool.and_eq_true, Bool.and_eq_true, eqTs_of ih]
  simp [and_assoc]) x
theorem eqT_self (x : Tree) : eqT x x = true := (eqT_iff x x).2 rfl
theorem eqT_no {x y : Tree} (h : x ≠ y) : eqT x y = false := by rw [Bool.eq_false_iff]; exact fun e => h ((eqT_iff x y).1 e)
instance : DecidableEq Tree := fun x y => if h : eqT x y = true then .isTrue ((eqT_iff x y).1 h) else .isFalse (fun e => h ((eqT_iff x y).2 e))
theorem take_snoc {α : Type} {xs ys : List α} {j : Nat} (h : j < xs.length) (h2 : j < ys.length) (ha : xs.take j = ys.take j) (he : xs[j] = ys[j]) : xs.take (j + 1) = ys.take (j + 1) := by
  rw [List.take_succ_eq_append_getElem h, List.take_succ_eq_append_getElem h2, ha, he]
def EqualC (x : Tree) : Prop := ∀ y S S' w0 cs ct, Rep S w0 (treeD x) cs → Rep S' w0 (treeD y) ct → Calls Tryz.prog 17 #[.agg cs.toArray, .agg ct.toArray] w0 (Ret fun v w' => v = .bool (eqT x y) ∧ Same [] w0 w')
set_option maxHeartbeats 4000000 in
set_option maxRecDepth 10000 in
theorem equal_step (k : Int) (t : Str) (ks : List Str) (xs : List Tree) (ih : ∀ x, x ∈ xs → EqualC x) : EqualC (.node k t ks xs) := by
 rintro ⟨k', t', ks', ys⟩ S S' w0 cs ct hR hR'
 obtain ⟨A, c, B, e, rfl, -, -, hK, hX⟩ := hR.tree_inv
 obtain ⟨A', c', B', e', rfl, -, -, hK', hY⟩ := hR'.tree_inv
 have hXl := hX.slice_len
 have hKl := hK.slice_len
 have hYl := hY.slice_len
 have hKl' := hK'.slice_len
 refine calls_start Tryz.func17 rfl Tryz.ntmps17 (Nat.le_of_ble_eq_true rfl) (args_2 _ _) ?_
 have hF := FR.start w0 []
 refine c_seq (c_region ?_)
 refine o_box (v := .agg #[.int .i64 (k), .string (bs (t)), .slice (A) (ks.length) (c), .slice (B) (xs.length) (e)]) (cs := #[.int .i64 (k), .string (bs (t)), .slice (A) (ks.length) (c), .slice (B) (xs.length) (e)]) hF rfl rfl ?_
 clear hF; rintro b1 w hb1 hF -
 refine o_box (v := .agg #[.int .i64 (k'), .string (bs (t')), .slice (A') (ks'.length) (c'), .slice (B') (ys.length) (e')]) (cs := #[.int .i64 (k'), .string (bs (t')), .slice (A') (ks'.length) (c'), .slice (B') (ys.length) (e')]) hF rfl rfl ?_
 clear hF; rintro b2 w hb2 hF -
 refine o_val (x_assign rfl) (o_nil (e_seq (c_seq (c_seq (c_region (o_val (v := .pointer (some ⟨b1, 0, none⟩)) (x_fieldAddrO fa_32_0 rfl) (o_val (v := .int .i64 (k)) (x_load Tryz.isAgg3 rfl (hF.cell 1 rfl rfl)) (o_val (v := .pointer (some ⟨b2, 0, none⟩)) (x_fieldAddrO fa_32_0 rfl) (o_val (v := .int .i64 (k')) (x_load Tryz.isAgg3 rfl (hF.cell 0 rfl rfl)) (o_val (v := .bool (decide ((k : Int) ≠ (k' : Int)))) (x_neq rfl rfl) (o_val (x_move rfl) ?_)))))))))))
 refine o_splitd (d := 13) (p := (k : Int) ≠ (k' : Int)) rfl (fun hg0 => ?_) (fun hg0 => ?_)
 refine o_off (o_off (o_off (o_off (o_off (o_val (x_pickt rfl rfl) (o_val (x_move rfl) (o_off (o_off (o_off (o_off (o_off (o_off (o_off ?_)))))))))))))
 refine o_val (x_pickt rfl rfl) (o_val (x_move rfl) (o_off (o_off (o_off (o_off (o_off (o_off (o_off (o_val (x_pickt rfl rfl) (o_nil (e_seq (c_ift rfl (c_seq ?_)))))))))))))
 refine c_region (o_val (x_assign rfl) (o_nil (e_seq ?_)))
 refine c_ret (e_ret (post_ret (res_1 (v := .bool false) rfl rfl) ?_))
 refine ⟨congrArg Value.bool (eqT_no (fun he => ?_)).symm, hF.same⟩; cases he; first | exact absurd rfl (by assumption) | (simp only [eqT_self] at hc4; cases hc4)
 refine o_val (v := .pointer (some ⟨b1, 1, none⟩)) (x_fieldAddrO fa_32_1 rfl) (o_val (v := .string (bs (t))) (x_load Tryz.isAgg9 rfl (hF.cell 1 rfl rfl)) (o_val (v := .pointer (some ⟨b2, 1, none⟩)) (x_fieldAddrO fa_32_1 rfl) (o_val (v := .string (bs (t'))) (x_load Tryz.isAgg9 rfl (hF.cell 0 rfl rfl)) (o_val (v := .bool (decide ((t : Str) ≠ t'))) (x_neqs rfl rfl) (o_val (x_pickf rfl rfl) (o_val (x_move rfl) ?_))))))
 refine o_splitd (d := 20) (p := (t : Str) ≠ t') rfl (fun hg1 => ?_) (fun hg1 => ?_)
 refine o_off (o_off (o_off (o_off (o_off (o_off (o_off (o_val (x_pickt rfl rfl) (o_val (x_move rfl) (o_off (o_off (o_off (o_off (o_off ?_)))))))))))))
 refine o_off (o_off (o_val (x_pickt rfl rfl) (o_nil (e_seq (c_ift rfl (c_seq (c_region (o_val (x_assign rfl) (o_nil (e_seq ?_))))))))))
 refine c_ret (e_ret (post_ret (res_1 (v := .bool false) rfl rfl) ?_))
 refine ⟨congrArg Value.bool (eqT_no (fun he => ?_)).symm, hF.same⟩; cases he; first | exact absurd rfl (by assumption) | (simp only [eqT_self] at hc4; cases hc4)
 refine o_val (v := .pointer (some ⟨b1, 2, none⟩)) (x_fieldAddrO fa_32_2 rfl) (o_val (v := .slice (A) (ks.length) (c)) (x_load Tryz.isAgg22 rfl (hF.cell 1 rfl rfl)) (o_val (v := .int .i64 ((ks.length : Nat))) (x_len_slice Tryz.underlying22 rfl) (o_val (v := .pointer (some ⟨b2, 2, none⟩)) (x_fieldAddrO fa_32_2 rfl) (o_val (v := .slice (A') (ks'.length) (c')) (x_load Tryz.isAgg22 rfl (hF.cell 0 rfl rfl)) (o_val (v := .int .i64 ((ks'.length : Nat))) (x_len_slice Tryz.underlying22 rfl) (o_val (v := .bool (decide (((ks.length : Nat) : Int) ≠ ((ks'.length : Nat) : Int)))) (x_neq rfl rfl) (o_val (x_pickf rfl rfl) (o_val (x_move rfl) ?_))))))))
 refine o_splitd (d := 29) (p := ((ks.length : Nat) : Int) ≠ ((ks'.length : Nat) : Int)) rfl (fun hg2 => ?_) (fun hg2 => ?_)
 refine o_off (o_off (o_off (o_off (o_off (o_off (o_off (o_val (x_pickt rfl rfl) (o_nil (e_seq (c_ift rfl (c_seq (c_region (o_val (x_assign rfl) ?_)))))))))))))
 refine o_nil (e_seq ?_)
 refine c_ret (e_ret (post_ret (res_1 (v := .bool false) rfl rfl) ?_))
 refine ⟨congrArg Value.bool (eqT_no (fun he => ?_)).symm, hF.same⟩; cases he; first | exact absurd rfl (by assumption) | (simp only [eqT_self] at hc4; cases hc4)
 refine o_val (v := .pointer (some ⟨b1, 3, none⟩)) (x_fieldAddrO fa_32_3 rfl) (o_val (v := .slice (B) (xs.length) (e)) (x_load Tryz.isAgg30 rfl (hF.cell 1 rfl rfl)) (o_val (v := .int .i64 ((xs.length : Nat))) (x_len_slice Tryz.underlying30 rfl) (o_val (v := .pointer (some ⟨b2, 3, none⟩)) (x_fieldAddrO fa_32_3 rfl) (o_val (v := .slice (B') (ys.length) (e')) (x_load Tryz.isAgg30 rfl (hF.cell 0 rfl rfl)) (o_val (v := .int .i64 ((ys.length : Nat))) (x_len_slice Tryz.underlying30 rfl) (o_val (v := .bool (decide (((xs.length : Nat) : Int) ≠ ((ys.length : Nat) : Int)))) (x_neq rfl rfl) (o_val (x_pickf rfl rfl) (o_nil (e_seq ?_)))))))))
 refine c_splitd (d := 37) (p := ((xs.length : Nat) : Int) ≠ ((ys.length : Nat) : Int)) rfl (fun hc0 => ?_) (fun hc0 => ?_)
 refine c_ift rfl (c_seq (c_region (o_val (x_assign rfl) (o_nil (e_seq ?_)))))
 refine c_ret (e_ret (post_ret (res_1 (v := .bool false) rfl rfl) ?_))
 refine ⟨congrArg Value.bool (eqT_no (fun he => ?_)).symm, hF.same⟩; cases he; first | exact absurd rfl (by assumption) | (simp only [eqT_self] at hc4; cases hc4)
 refine c_iff rfl (c_skip (e_seq (c_seq (c_seq (c_region (o_val (x_assign rfl) (o_nil (e_seq (c_block ?_)))))))))
 refine c_loop (fun μ σ w => ∃ (j : Nat), μ = ks.length - j ∧ (j ≤ ks.length) ∧ (ks.take j = ks'.take j) ∧ AllEq σ [(2, .pointer (some ⟨b1, 0, none⟩)), (3, .pointer (some ⟨b2, 0, none⟩)), (5, .int .i64 ((j : Int)))] ∧ FR w0 [] [(b2, .cells #[.int .i64 (k'), .string (bs (t')), .slice (A') (ks'.length) (c'), .slice (B') (ys.length) (e')] 32), (b1, .cells #[.int .i64 (k), .string (bs (t)), .slice (A) (ks.length) (c), .slice (B) (xs.length) (e)] 32)] w) _ ⟨0, rfl, (Nat.zero_le _), (by simp), ⟨rfl, rfl, rfl, trivial⟩, hF⟩ ?_
 clear hF; rintro μ σ w ⟨j, rfl, hj, ha, hs, hF⟩
 refine Cg.slots hs ?_
 clear hs; intro σ
 refine c_seq (c_seq (c_region (o_val (x_move rfl) (o_val (v := .pointer (some ⟨b1, 2, none⟩)) (x_fieldAddrO fa_32_2 rfl) (o_val (v := .slice (A) (ks.length) (c)) (x_load Tryz.isAgg22 rfl (hF.cell 1 rfl rfl)) (o_val (v := .int .i64 ((ks.length : Nat))) (x_len_slice Tryz.underlying22 rfl) (o_val (v := .bool (decide (((j : Int) : Int) < ((ks.length : Nat) : Int)))) (x_lss rfl rfl) (o_nil (e_seq ?_)))))))))
 refine c_splitd (d := 42) (p := ((j : Int) : Int) < ((ks.length : Nat) : Int)) rfl (fun hc1 => ?_) (fun hc1 => ?_)
 refine c_ift rfl (c_skip (e_seq (c_seq (c_block (c_seq ?_)))))
 refine c_drawF [] (.free 0 (.free 1 (.free 2 (.free 3 (.free 4 (.free 5 (.free 6 (.free 7 (.free 8 (.free 9 (.free 10 .nil))))))))))) (by kernel_rfl) hF (by kernel_rfl) (by kernel_rfl) ?_
 clear hF; rintro w hF -
 refine ⟨fun wq => FR w0 [] [(b2, .cells #[.int .i64 (k'), .string (bs (t')), .slice (A') (ks'.length) (c'), .slice (B') (ys.length) (e')] 32), (b1, .cells #[.int .i64 (k), .string (bs (t)), .slice (A) (ks.length) (c), .slice (B) (xs.length) (e)] 32)] wq, hF, ?_⟩
 refine f_free rfl (v := .pointer (some ⟨b1, 2, none⟩)) (fun w hC => x_fieldAddrO fa_32_2 rfl) (f_free rfl (v := .slice (A) (ks.length) (c)) (fun w hC => x_load Tryz.isAgg22 rfl (hC.cell 1 rfl rfl)) (f_free rfl (v := .int .i64 ((j : Int))) (fun w hC => x_move rfl) ?_))
 obtain ⟨ad3, hA3, hk3, hx3⟩ := hK.str_elem (i := j) (by omega)
 refine f_free rfl (v := .pointer (some (ad3.add (j * 1)))) (fun w hC => x_indexAddrA (i := (j : Int)) sl_22 rfl hA3 rfl (by omega) (by omega)) (f_free rfl (v := .string (bs (ks[j]))) (fun w hC => x_load Tryz.isAgg9 rfl (hC.cell0 hk3)) (f_free rfl (v := .pointer (some ⟨b2, 2, none⟩)) (fun w hC => x_fieldAddrO fa_32_2 rfl) (f_free rfl (v := .slice (A') (ks'.length) (c')) (fun w hC => x_load Tryz.isAgg22 rfl (hC.cell 0 rfl rfl)) (f_free rfl (v := .int .i64 ((j : Int))) (fun w hC => x_move rfl) ?_))))
 obtain ⟨ad4, hA4, hk4, hx4⟩ := hK'.str_elem (i := j) (by omega)
 refine f_free rfl (v := .pointer (some (ad4.add (j * 1)))) (fun w hC => x_indexAddrA (i := (j : Int)) sl_22 rfl hA4 rfl (by omega) (by omega)) (f_free rfl (v := .string (bs (ks'[j]))) (fun w hC => x_load Tryz.isAgg9 rfl (hC.cell0 hk4)) (f_free rfl (v := .bool (decide ((ks[j] : Str) ≠ ks'[j]))) (fun w hC => x_neqs rfl rfl) (d_nil (e_seq ?_))))
 refine c_splitd (d := 55) (p := (ks[j] : Str) ≠ ks'[j]) rfl (fun hc2 => ?_) (fun hc2 => ?_)
 refine c_ift rfl (c_seq (c_region (o_val (x_assign rfl) (o_nil (e_seq ?_)))))
 refine c_ret (e_ret (post_ret (res_1 (v := .bool false) rfl rfl) ?_))
 refine ⟨congrArg Value.bool (eqT_no (fun he => ?_)).symm, hF.same⟩; cases he; first | exact absurd rfl (by assumption) | (simp only [eqT_self] at hc4; cases hc4)
 refine c_iff rfl (c_skip (e_block (e_seq (c_region (o_val (x_move rfl) (o_val (v := .int .i64 (((j : Int) : Int) + 1)) (x_add rfl rfl (wrap_id (by omega) (by omega))) (o_val (x_assign rfl) (o_nil ?_))))))))
 refine e_inv ⟨_, ?_, j + 1, rfl, (by omega), (take_snoc (by omega) (by omega) ha (by simpa using hc2)), ⟨rfl, rfl, rfl, trivial⟩, hF⟩
 omega
 refine c_iff rfl ?_
 refine c_exit (e_exit rfl ?_)
 refine e_seq (c_seq (c_seq (c_region (o_val (x_assign rfl) (o_nil (e_seq (c_block ?_)))))))
 refine c_loop (fun μ σ w => ∃ (i : Nat), μ = xs.length - i ∧ (i ≤ xs.length) ∧ (xs.take i = ys.take i) ∧ AllEq σ [(2, .pointer (some ⟨b1, 0, none⟩)), (3, .pointer (some ⟨b2, 0, none⟩)), (6, .int .i64 ((i : Int)))] ∧ FR w0 [] [(b2, .cells #[.int .i64 (k'), .string (bs (t')), .slice (A') (ks'.length) (c'), .slice (B') (ys.length) (e')] 32), (b1, .cells #[.int .i64 (k), .string (bs (t)), .slice (A) (ks.length) (c), .slice (B) (xs.length) (e)] 32)] w) _ ⟨0, rfl, (Nat.zero_le _), (by simp), ⟨rfl, rfl, rfl, trivial⟩, hF⟩ ?_
 clear hF; rintro μ σ w ⟨i, rfl, hi, hb, hs, hF⟩
 refine Cg.slots hs ?_
 clear hs; intro σ
 have hke : ks = ks' := by rw [List.take_of_length_le (by omega), List.take_of_length_le (by omega)] at ha; exact ha
 refine c_seq (c_seq (c_region (o_val (x_move rfl) (o_val (v := .pointer (some ⟨b1, 3, none⟩)) (x_fieldAddrO fa_32_3 rfl) (o_val (v := .slice (B) (xs.length) (e)) (x_load Tryz.isAgg30 rfl (hF.cell 1 rfl rfl)) (o_val (v := .int .i64 ((xs.length : Nat))) (x_len_slice Tryz.underlying30 rfl) (o_val (v := .bool (decide (((i : Int) : Int) < ((xs.length : Nat) : Int)))) (x_lss rfl rfl) (o_nil (e_seq ?_)))))))))
 refine c_splitd (d := 60) (p := ((i : Int) : Int) < ((xs.length : Nat) : Int)) rfl (fun hc3 => ?_) (fun hc3 => ?_)
 refine c_ift rfl (c_skip (e_seq (c_seq (c_block (c_seq ?_)))))
 refine c_drawF [] (.free 0 (.free 1 (.free 2 (.free 3 (.free 4 (.free 5 (.free 6 (.free 7 (.free 8 (.free 9 (.act 10 (.free 11 .nil)))))))))))) (by kernel_rfl) hF (by kernel_rfl) (by kernel_rfl) ?_
 clear hF; rintro w hF -
 refine ⟨fun wq => FR w0 [] [(b2, .cells #[.int .i64 (k'), .string (bs (t')), .slice (A') (ks'.length) (c'), .slice (B') (ys.length) (e')] 32), (b1, .cells #[.int .i64 (k), .string (bs (t)), .slice (A) (ks.length) (c), .slice (B) (xs.length) (e)] 32)] wq, hF, ?_⟩
 refine f_free rfl (v := .pointer (some ⟨b1, 3, none⟩)) (fun w hC => x_fieldAddrO fa_32_3 rfl) (f_free rfl (v := .slice (B) (xs.length) (e)) (fun w hC => x_load Tryz.isAgg30 rfl (hC.cell 1 rfl rfl)) (f_free rfl (v := .int .i64 ((i : Int))) (fun w hC => x_move rfl) ?_))
 obtain ⟨ad5, cs5, hA5, hl5, hk5, hx5⟩ := hX.tree_elem (i := i) (by omega)
 have ho5 := hx5.one_
 refine f_free rfl (v := .pointer (some (ad5.add (i * 4)))) (fun w hC => x_indexAddrA (i := (i : Int)) sl_30 rfl hA5 rfl (by omega) (by omega)) (f_free rfl (v := .agg (List.toArray cs5)) (fun w hC => x_loadS (l := cs5) Tryz.isAgg32 Tryz.sizeOf32 rfl hl5 (hC.cells0 hk5)) (f_free rfl (v := .pointer (some ⟨b2, 3, none⟩)) (fun w hC => x_fieldAddrO fa_32_3 rfl) (f_free rfl (v := .slice (B') (ys.length) (e')) (fun w hC => x_load Tryz.isAgg30 rfl (hC.cell 0 rfl rfl)) (f_free rfl (v := .int .i64 ((i : Int))) (fun w hC => x_move rfl) ?_))))
 obtain ⟨ad6, cs6, hA6, hl6, hk6, hx6⟩ := hY.tree_elem (i := i) (by omega)
 have ho6 := hx6.one_
 refine f_free rfl (v := .pointer (some (ad6.add (i * 4)))) (fun w hC => x_indexAddrA (i := (i : Int)) sl_30 rfl hA6 rfl (by omega) (by omega)) (f_free rfl (v := .agg (List.toArray cs6)) (fun w hC => x_loadS (l := cs6) Tryz.isAgg32 Tryz.sizeOf32 rfl hl6 (hC.cells0 hk6)) ?_)
 refine f_call rfl (ih _ (List.getElem_mem (l := xs) (n := i) (by omega)) ys[i] _ _ _ _ _ (hF.rep hx5) (hF.rep hx6)) (x_call2 en_17 rfl rfl rfl) ?_
 rintro _ w ⟨rfl, hE⟩
 replace hF := hF.ext hE
 clear hE
 refine ⟨hF, ?_⟩
 refine f_free rfl (v := .bool (eqT xs[i] ys[i])) (fun w hC => x_assign rfl) (d_nil (e_seq (c_seq (c_region (o_val (x_move rfl) (o_val (v := .bool (!(eqT xs[i] ys[i]))) (x_not rfl) (o_nil (e_seq ?_))))))))
 refine c_split (d := 75) (b := !(eqT xs[i] ys[i])) rfl (fun hc4 => ?_) (fun hc4 => ?_)
 refine c_ift rfl (c_seq (c_region (o_val (x_assign rfl) (o_nil (e_seq ?_)))))
 refine c_ret (e_ret (post_ret (res_1 (v := .bool false) rfl rfl) ?_))
 refine ⟨congrArg Value.bool (eqT_no (fun he => ?_)).symm, hF.same⟩; cases he; first | exact absurd rfl (by assumption) | (simp only [eqT_self] at hc4; cases hc4)
 refine c_iff rfl (c_skip (e_block (e_seq (c_region (o_val (x_move rfl) (o_val (v := .int .i64 (((i : Int) : Int) + 1)) (x_add rfl rfl (wrap_id (by omega) (by omega))) (o_val (x_assign rfl) (o_nil ?_))))))))
 refine e_inv ⟨_, ?_, i + 1, rfl, (by omega), (take_snoc (by omega) (by omega) hb ((eqT_iff _ _).1 (by simpa using hc4))), ⟨rfl, rfl, rfl, trivial⟩, hF⟩
 omega
 refine c_iff rfl ?_
 refine c_exit (e_exit rfl ?_)
 refine e_seq (c_seq (c_region (o_val (x_assign rfl) (o_nil (e_seq ?_)))))
 refine c_ret (e_ret (post_ret (res_1 (v := .bool true) rfl rfl) ?_))
 have e3 : xs = ys := (by have h1 := hb; rw [List.take_of_length_le (by omega)] at h1; rw [List.take_of_length_le (by omega)] at h1; exact h1); have e1 : k = k' := Classical.not_not.1 hg0; have e2 : t = t' := Classical.not_not.1 hg1; subst hke e3 e1 e2; exact ⟨congrArg Value.bool (eqT_self _).symm, hF.same⟩
theorem equal_c (x : Tree) : EqualC x := Tree.ind equal_step x
set_option maxHeartbeats 1000000 in
set_option maxRecDepth 10000 in
theorem row_c (A : Option Addr) (n c : Nat) (w0 : World) : Calls Tryz.prog 23 #[.slice A n c] w0 (Ret fun v w' => v = .agg #[.int .i64 5, .string (bs []), .slice none 0 0, .slice A n c] ∧ Same [] w0 w') := by
 refine calls_start Tryz.func23 rfl Tryz.ntmps23 (Nat.le_of_ble_eq_true rfl) (args_1 _) ?_
 have hF := FR.start w0 []
 refine c_seq (c_region ?_)
 refine o_alloc (cs := #[.int .i64 (0), .string (bs ([])), .slice (none) (0) (0), .slice (none) (0) (0)]) hF Tryz.zeroValue32 rfl ?_
 clear hF; rintro b1 w hb1 hF -
 refine o_nil (e_seq (c_seq (c_region (o_val (x_move rfl) ?_))))
 refine o_val (w' := w) (v := .agg #[.int .i64 (5), .string (bs ([])), .slice (none) (0) (0), .slice (A) (n) (c)]) (by kernel_rfl) ?_
 refine o_store 0 (l := [.int .i64 (5), .string (bs ([])), .slice (none) (0) (0), .slice (A) (n) (c)]) (cs' := #[.int .i64 (5), .string (bs ([])), .slice (none) (0) (0), .slice (A) (n) (c)]) hF Tryz.sizeOf32 rfl (v := .agg #[.int .i64 (5), .string (bs ([])), .slice (none) (0) (0), .slice (A) (n) (c)]) rfl rfl (by simp [one]) rfl (Nat.le_of_ble_eq_true rfl) rfl ?_
 clear hF; rintro w hF -
 replace hF : FR w0 [] [(b1, .cells #[.int .i64 (5), .string (bs ([])), .slice (none) (0) (0), .slice (A) (n) (c)] 32)] w := hF
 refine o_nil (e_seq ?_)
 refine c_ret (e_ret (post_ret (res_c rfl (l := [.int .i64 (5), .string (bs ([])), .slice (none) (0) (0), .slice (A) (n) (c)]) rfl Tryz.isAgg32 Tryz.sizeOf32 rfl (hF.cellsAll 0 rfl)) ?_))
 exact ⟨rfl, hF.same⟩
set_option maxHeartbeats 1000000 in
set_option maxRecDepth 10000 in
theorem map_c (A : Option Addr) (n c : Nat) (B : Option Addr) (m d : Nat) (w0 : World) : Calls Tryz.prog 37 #[.slice A n c, .slice B m d] w0 (Ret fun v w' => v = .agg #[.int .i64 6, .string (bs []), .slice A n c, .slice B m d] ∧ Same [] w0 w') := by
 refine calls_start Tryz.func37 rfl Tryz.ntmps37 (Nat.le_of_ble_eq_true rfl) (args_2 _ _) ?_
 have hF := FR.start w0 []
 refine c_seq (c_region ?_)
 refine o_alloc (cs := #[.int .i64 (0), .string (bs ([])), .slice (none) (0) (0), .slice (none) (0) (0)]) hF Tryz.zeroValue32 rfl ?_
 clear hF; rintro b1 w hb1 hF -
 refine o_nil (e_seq (c_seq (c_region (o_val (x_move rfl) (o_val (x_move rfl) ?_)))))
 refine o_val (w' := w) (v := .agg #[.int .i64 (6), .string (bs ([])), .slice (A) (n) (c), .slice (B) (m) (d)]) (by kernel_rfl) ?_
 refine o_store 0 (l := [.int .i64 (6), .string (bs ([])), .slice (A) (n) (c), .slice (B) (m) (d)]) (cs' := #[.int .i64 (6), .string (bs ([])), .slice (A) (n) (c), .slice (B) (m) (d)]) hF Tryz.sizeOf32 rfl (v := .agg #[.int .i64 (6), .string (bs ([])), .slice (A) (n) (c), .slice (B) (m) (d)]) rfl rfl (by simp [one]) rfl (Nat.le_of_ble_eq_true rfl) rfl ?_
 clear hF; rintro w hF -
 replace hF : FR w0 [] [(b1, .cells #[.int .i64 (6), .string (bs ([])), .slice (A) (n) (c), .slice (B) (m) (d)] 32)] w := hF
 refine o_nil (e_seq ?_)
 refine c_ret (e_ret (post_ret (res_c rfl (l := [.int .i64 (6), .string (bs ([])), .slice (A) (n) (c), .slice (B) (m) (d)]) rfl Tryz.isAgg32 Tryz.sizeOf32 rfl (hF.cellsAll 0 rfl)) ?_))
 exact ⟨rfl, hF.same⟩
end Go.Scarf
