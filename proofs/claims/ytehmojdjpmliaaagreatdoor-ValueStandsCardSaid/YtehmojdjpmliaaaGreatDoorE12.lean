/- A part of the proof. -/
import Derived.Test.YtehmojdjpmliaaaGreatDoorE11
import Derived.Test.YtehmojdjpmliaaaGreatDoorW16
set_option linter.all false
namespace Go.Scarf
open Go.RowKit Go.Proofs
mutual
def okC : Tree → Prop | .node k t ks xs => (k ≠ 6 → ks = []) ∧ t.length ≤ 140737488355327 ∧ okCs xs
def okCs : List Tree → Prop | [] => True | x :: xs => okC x ∧ okCs xs
end
theorem okCs_mem : ∀ {xs : List Tree}, okCs xs → ∀ x ∈ xs, okC x
  | [], _, _, h => absurd h (by simp)
  | y :: ys, h, x, hx => by
    rw [okCs] at h
    rcases List.mem_cons.1 hx with rfl | hx
    · exact h.1
    · exact okCs_mem h.2 x hx
theorem okCs_of : ∀ {xs : List Tree}, (∀ x ∈ xs, okC x) → okCs xs
  | [], _ => by rw [okCs]; trivial
  | y :: ys, h => by rw [okCs]; exact ⟨h y (by simp), okCs_of fun x hx => h x (by simp [hx])⟩
theorem okC_sort (x : Tree) : maxL x ≤ 1073741824 → okC (sortT x) := Tree.ind (Q := fun x => maxL x ≤ 1073741824 → okC (sortT x)) (fun k t ks xs ih h => by
  rw [maxL] at h
  have hs : ∀ y ∈ sortTs xs, okC y := by
    intro y hy
    rw [sortTs_eq] at hy
    obtain ⟨z, hz, rfl⟩ := List.mem_map.1 hy
    exact ih z hz (by have := maxLs_mem hz; omega)
  rw [sortT]
  split
  · rw [okC]
    refine ⟨fun h6 => absurd (by assumption) h6, by omega, okCs_of fun y hy => ?_⟩
    obtain ⟨key, _, rfl⟩ := List.mem_map.1 hy
    cases hl : lookT ks (sortTs xs) key with
    | none => simp only [Option.getD_none]; rw [okC]; simp [okCs]
    | some z => exact hs z (lookT_mem hl)
  · rw [okC]
    exact ⟨fun _ => rfl, by omega, okCs_of hs⟩) x
def stepC (r rest : Int) : Int := if r ≠ 0 then r else rest
section
variable {α : Type} {f : α → α → Int} {xs ys : List α} {j : Nat} {Q q r : Int}
theorem cmp_start : stepC r (cmpL f xs ys) = stepC r (cmpL f (xs.drop 0) (ys.drop 0)) := by rw [List.drop_zero, List.drop_zero]
theorem cmp_next (h : Q = stepC r (cmpL f (xs.drop j) (ys.drop j))) (hr : r = 0) (h1 : j < xs.length) (h2 : j < ys.length) : Q = stepC (f xs[j] ys[j]) (cmpL f (xs.drop (j + 1)) (ys.drop (j + 1))) := by
  rw [h, hr, stepC, if_neg (by simp), stepC]
  split
  · exact cmpL_at h1 h2 (by assumption)
  · exact cmpL_step h1 h2 (Classical.byContradiction (by assumption))
theorem cmp_end (h : Q = stepC r (cmpL f (xs.drop j) (ys.drop j))) (he : r ≠ 0 ∨ xs.length ≤ j ∨ ys.length ≤ j) (hj : j ≤ xs.length ∧ j ≤ ys.length)
    (hq : (r ≠ 0 ∧ q = r) ∨ (r = 0 ∧ xs.length = ys.length ∧ q = 0) ∨ (r = 0 ∧ xs.length < ys.length ∧ q = -1) ∨ (r = 0 ∧ ys.length < xs.length ∧ q = 1)) : q = Q := by
  rw [h]; unfold stepC
  rcases hq with ⟨a, rfl⟩ | ⟨rfl, a, rfl⟩ | ⟨rfl, a, rfl⟩ | ⟨rfl, a, rfl⟩
  · rw [if_pos a]
  · rw [if_neg (by simp), cmpL_end (by omega) (by omega)]
  · rw [if_neg (by simp), cmpL_less (by omega) (by omega)]
  · rw [if_neg (by simp), cmpL_more (by omega) (by omega)]
end
theorem order_kinds {k k' : Int} {t t' : Str} {ks ks' : List Str} {xs ys : List Tree} (h : k ≠ k') : orderT (.node k t ks xs) (.node k' t' ks' ys) = if k < k' then -1 else 1 := by
  rw [orderT, if_neg (by omega)]
  have e : Lib.compareInt k k' = if k < k' then -1 else 1 := by unfold Lib.compareInt; split <;> (try split) <;> (try rfl) <;> omega
  have hne : Lib.compareInt k k' ≠ 0 := by rw [e]; split <;> decide
  have : orL [Lib.compareInt k k', Lib.compareBytes t t', cmpL Lib.compareBytes ks ks'] = Lib.compareInt k k' := by rw [orL, if_pos hne]
  rw [this, if_pos hne, e]
theorem order_alike {k : Int} {t t' : Str} {ks ks' : List Str} {xs ys : List Tree} (h : k ≠ 3) : orderT (.node k t ks xs) (.node k t' ks' ys) = stepC (stepC (Lib.compareBytes t t') (cmpL Lib.compareBytes ks ks')) (cmpL orderT xs ys) := by
  rw [orderT, if_neg (by omega)]
  have e : Lib.compareInt k k = 0 := by unfold Lib.compareInt; split <;> (try split) <;> (try rfl) <;> omega
  have : orL [Lib.compareInt k k, Lib.compareBytes t t', cmpL Lib.compareBytes ks ks'] = stepC (Lib.compareBytes t t') (cmpL Lib.compareBytes ks ks') := by
    rw [orL, e, if_neg (by simp), orL, orL, orL, stepC]
    split
    · rfl
    · split
      · rfl
      · simp_all
  rw [this, orderL_eq]; rfl
def RCmpC (x : Tree) : Prop := ∀ y S S' w0 cs ct, Rep S w0 (treeD x) cs → Rep S' w0 (treeD y) ct → okC x → okC y → Calls Tryz.prog 72 #[.agg cs.toArray, .agg ct.toArray] w0 (Ret fun v w' => v = .int .i64 (orderT x y) ∧ Same [] w0 w')
set_option maxHeartbeats 4000000 in
set_option maxRecDepth 10000 in
theorem rcmp_step (k : Int) (t : Str) (ks : List Str) (xs : List Tree) (ih : ∀ x, x ∈ xs → RCmpC x) : RCmpC (.node k t ks xs) := by
 rintro ⟨k', t', ks', ys⟩ S S' w0 cs ct hR hR' hk hk'
 rw [okC] at hk
 rw [okC] at hk'
 obtain ⟨A, c, B, e, rfl, -, -, hK, hX⟩ := hR.tree_inv
 obtain ⟨A', c', B', e', rfl, -, -, hK', hY⟩ := hR'.tree_inv
 have hKl := hK.slice_len
 have hXl := hX.slice_len
 have hYl := hY.slice_len
 have hKl' := hK'.slice_len
 have hkn : k = k' → k ≠ 6 → ks.length = ks'.length := fun h0 h => by rw [hk.1 h, hk'.1 (by omega)]
 refine calls_start Tryz.func72 rfl Tryz.ntmps72 (Nat.le_of_ble_eq_true rfl) (args_2 _ _) ?_
 have hF := FR.start w0 []
 refine c_seq (c_region ?_)
 refine o_box (v := .agg #[.int .i64 (k), .string (bs (t)), .slice (A) (ks.length) (c), .slice (B) (xs.length) (e)]) (cs := #[.int .i64 (k), .string (bs (t)), .slice (A) (ks.length) (c), .slice (B) (xs.length) (e)]) hF rfl rfl ?_
 clear hF; rintro b1 w hb1 hF -
 refine o_box (v := .agg #[.int .i64 (k'), .string (bs (t')), .slice (A') (ks'.length) (c'), .slice (B') (ys.length) (e')]) (cs := #[.int .i64 (k'), .string (bs (t')), .slice (A') (ks'.length) (c'), .slice (B') (ys.length) (e')]) hF rfl rfl ?_
 clear hF; rintro b2 w hb2 hF -
 refine o_val (v := .int .i64 (0)) (x_assign rfl) (o_nil (e_seq (c_seq (c_seq (c_region (o_val (v := .pointer (some ⟨b1, 0, none⟩)) (x_fieldAddrO fa_25_0 rfl) (o_val (v := .int .i64 (k)) (x_load Tryz.isAgg3 rfl (hF.cell 1 rfl rfl)) (o_val (v := .pointer (some ⟨b2, 0, none⟩)) (x_fieldAddrO fa_25_0 rfl) (o_val (v := .int .i64 (k')) (x_load Tryz.isAgg3 rfl (hF.cell 0 rfl rfl)) (o_val (v := .bool (decide ((k : Int) ≠ (k' : Int)))) (x_neq rfl rfl) (o_nil (e_seq ?_))))))))))))
 refine c_splitd (d := 16) (p := (k : Int) ≠ (k' : Int)) rfl (fun hc0 => ?_) (fun hc0 => ?_)
 refine c_ift rfl (c_seq (c_seq (c_region (o_val (v := .pointer (some ⟨b1, 0, none⟩)) (x_fieldAddrO fa_25_0 rfl) (o_val (v := .int .i64 (k)) (x_load Tryz.isAgg3 rfl (hF.cell 1 rfl rfl)) (o_val (v := .pointer (some ⟨b2, 0, none⟩)) (x_fieldAddrO fa_25_0 rfl) (o_val (v := .int .i64 (k')) (x_load Tryz.isAgg3 rfl (hF.cell 0 rfl rfl)) (o_val (v := .bool (decide ((k : Int) < (k' : Int)))) (x_lss rfl rfl) (o_nil (e_seq ?_))))))))))
 refine c_splitd (d := 21) (p := (k : Int) < (k' : Int)) rfl (fun hc1 => ?_) (fun hc1 => ?_)
 refine c_ift rfl (c_seq (c_region (o_val (v := .int .i64 ((-1))) (x_assign rfl) (o_nil (e_seq ?_)))))
 refine c_ret (e_ret (post_ret (res_1 (v := .int .i64 ((-1))) rfl rfl) ?_))
 exact ⟨by rw [order_kinds (by omega), if_pos (by omega)], hF.same⟩
 refine c_iff rfl (c_skip (e_seq (c_seq (c_region (o_val (v := .int .i64 (1)) (x_assign rfl) (o_nil (e_seq ?_)))))))
 refine c_ret (e_ret (post_ret (res_1 (v := .int .i64 (1)) rfl rfl) ?_))
 exact ⟨by rw [order_kinds (by omega), if_neg (by omega)], hF.same⟩
 refine c_iff rfl (c_skip (e_seq (c_seq (c_seq (c_region (o_val (v := .pointer (some ⟨b1, 0, none⟩)) (x_fieldAddrO fa_25_0 rfl) (o_val (v := .int .i64 (k)) (x_load Tryz.isAgg3 rfl (hF.cell 1 rfl rfl)) (o_val (v := .bool (decide ((k : Int) = (3 : Int)))) (x_eql rfl rfl) (o_nil (e_seq ?_))))))))))
 refine c_splitd (d := 24) (p := (k : Int) = (3 : Int)) rfl (fun hc2 => ?_) (fun hc2 => ?_)
 refine c_ift rfl (c_seq (c_region (o_val (v := .pointer (some ⟨b1, 1, none⟩)) (x_fieldAddrO fa_25_1 rfl) (o_val (v := .string (bs (t))) (x_load Tryz.isAgg9 rfl (hF.cell 1 rfl rfl)) ?_))))
 refine o_call (rdecimal_c t hk.2.1 _) (x_call1 en_106 rfl rfl) ?_
 rintro _ w ⟨rfl, hE⟩
 replace hF := hF.ext hE
 clear hE
 refine o_val (v := .tuple #[.agg #[.bool ((parseN t).1.neg), .string (bs ((parseN t).1.digits)), .int .i64 ((parseN t).1.exp)], .bool (decimalB t)]) (x_move rfl) (o_val (v := .agg #[.bool ((parseN t).1.neg), .string (bs ((parseN t).1.digits)), .int .i64 ((parseN t).1.exp)]) (x_extract rfl rfl) (o_val (v := .bool (decimalB t)) (x_extract rfl rfl) ?_))
 refine o_lay (l := [.bool ((parseN t).1.neg), .string (bs ((parseN t).1.digits)), .int .i64 ((parseN t).1.exp)]) hF Tryz.zeroValue65 Tryz.sizeOf65 rfl (v := .agg #[.bool ((parseN t).1.neg), .string (bs ((parseN t).1.digits)), .int .i64 ((parseN t).1.exp)]) rfl rfl (by simp [one]) rfl ?_
 clear hF; rintro b3 w hb3 hF -
 refine o_val (v := .bool (decimalB t)) (x_assign rfl) (o_nil (e_seq (c_seq (c_region (o_val (v := .pointer (some ⟨b2, 1, none⟩)) (x_fieldAddrO fa_25_1 rfl) (o_val (v := .string (bs (t'))) (x_load Tryz.isAgg9 rfl (hF.cell 1 rfl rfl)) ?_))))))
 refine o_call (rdecimal_c t' hk'.2.1 _) (x_call1 en_106 rfl rfl) ?_
 rintro _ w ⟨rfl, hE⟩
 replace hF := hF.ext hE
 clear hE
 refine o_val (v := .tuple #[.agg #[.bool ((parseN t').1.neg), .string (bs ((parseN t').1.digits)), .int .i64 ((parseN t').1.exp)], .bool (decimalB t')]) (x_move rfl) (o_val (v := .agg #[.bool ((parseN t').1.neg), .string (bs ((parseN t').1.digits)), .int .i64 ((parseN t').1.exp)]) (x_extract rfl rfl) (o_val (v := .bool (decimalB t')) (x_extract rfl rfl) ?_))
 refine o_lay (l := [.bool ((parseN t').1.neg), .string (bs ((parseN t').1.digits)), .int .i64 ((parseN t').1.exp)]) hF Tryz.zeroValue65 Tryz.sizeOf65 rfl (v := .agg #[.bool ((parseN t').1.neg), .string (bs ((parseN t').1.digits)), .int .i64 ((parseN t').1.exp)]) rfl rfl (by simp [one]) rfl ?_
 clear hF; rintro b4 w hb4 hF -
 refine o_val (v := .bool (decimalB t')) (x_assign rfl) (o_nil (e_seq (c_seq (c_region (o_val (v := .agg #[.bool ((parseN t).1.neg), .string (bs ((parseN t).1.digits)), .int .i64 ((parseN t).1.exp)]) (x_loadS (l := [.bool ((parseN t).1.neg), .string (bs ((parseN t).1.digits)), .int .i64 ((parseN t).1.exp)]) Tryz.isAgg65 Tryz.sizeOf65 rfl rfl (hF.cellsAll 1 rfl)) (o_val (v := .agg #[.bool ((parseN t').1.neg), .string (bs ((parseN t').1.digits)), .int .i64 ((parseN t').1.exp)]) (x_loadS (l := [.bool ((parseN t').1.neg), .string (bs ((parseN t').1.digits)), .int .i64 ((parseN t').1.exp)]) Tryz.isAgg65 Tryz.sizeOf65 rfl rfl (hF.cellsAll 0 rfl)) ?_))))))
 refine o_call (rcompare_c (parseN t).1 (parseN t').1 (by have := parseN_len t; omega) (by have := parseN_len t'; omega) _) (x_call2 en_107 rfl rfl rfl) ?_
 rintro _ w ⟨rfl, hE⟩
 replace hF := hF.ext hE
 clear hE
 refine o_val (v := .int .i64 (cmpN (parseN t).1 (parseN t').1)) (x_assign rfl) (o_nil (e_seq ?_))
 refine c_ret (e_ret (post_ret (res_1 (v := .int .i64 (cmpN (parseN t).1 (parseN t').1)) rfl rfl) ?_))
 exact ⟨by rw [orderT, if_pos ⟨by omega, by omega⟩], hF.same⟩
 refine c_iff rfl (c_skip (e_seq (c_seq (c_region (o_val (v := .pointer (some ⟨b1, 1, none⟩)) (x_fieldAddrO fa_25_1 rfl) (o_val (v := .string (bs (t))) (x_load Tryz.isAgg9 rfl (hF.cell 1 rfl rfl)) (o_val (v := .pointer (some ⟨b2, 1, none⟩)) (x_fieldAddrO fa_25_1 rfl) (o_val (v := .string (bs (t'))) (x_load Tryz.isAgg9 rfl (hF.cell 0 rfl rfl)) ?_))))))))
 refine o_call (texts_c t t' _) (x_call2 en_108 rfl rfl rfl) ?_
 rintro _ w ⟨rfl, hE⟩
 replace hF := hF.ext hE
 clear hE
 refine o_val (v := .int .i64 (Lib.compareBytes t t')) (x_assign rfl) (o_nil (e_seq (c_seq ?_)))
 refine c_join (fun σ w => ∃ (r1 : Int), ∃ (j1 : Nat), (j1 ≤ ks.length ∧ j1 ≤ ks'.length) ∧ (stepC (Lib.compareBytes t t') (cmpL Lib.compareBytes ks ks') = stepC r1 (cmpL Lib.compareBytes (ks.drop j1) (ks'.drop j1))) ∧ (r1 ≠ 0 ∨ ks.length ≤ j1 ∨ ks'.length ≤ j1) ∧ AllEq σ [(2, .pointer (some ⟨b1, 0, none⟩)), (3, .pointer (some ⟨b2, 0, none⟩)), (9, .int .i64 (r1))] ∧ FR w0 [] [(b2, .cells #[.int .i64 (k'), .string (bs (t')), .slice (A') (ks'.length) (c'), .slice (B') (ys.length) (e')] 25), (b1, .cells #[.int .i64 (k), .string (bs (t)), .slice (A) (ks.length) (c), .slice (B) (xs.length) (e)] 25)] w) ?_ ?_
 refine c_seq (c_region (o_val (v := .int .i64 (0)) (x_assign rfl) (o_nil (e_seq (c_block ?_)))))
 refine c_loop (fun μ σ w => ∃ (r : Int), ∃ (j : Nat), μ = ks.length - j ∧ (j ≤ ks.length ∧ j ≤ ks'.length) ∧ (stepC (Lib.compareBytes t t') (cmpL Lib.compareBytes ks ks') = stepC r (cmpL Lib.compareBytes (ks.drop j) (ks'.drop j))) ∧ AllEq σ [(2, .pointer (some ⟨b1, 0, none⟩)), (3, .pointer (some ⟨b2, 0, none⟩)), (9, .int .i64 (r)), (10, .int .i64 ((j : Int)))] ∧ FR w0 [] [(b2, .cells #[.int .i64 (k'), .string (bs (t')), .slice (A') (ks'.length) (c'), .slice (B') (ys.length) (e')] 25), (b1, .cells #[.int .i64 (k), .string (bs (t)), .slice (A) (ks.length) (c), .slice (B) (xs.length) (e)] 25)] w) _ ⟨Lib.compareBytes t t', 0, rfl, (⟨Nat.zero_le _, Nat.zero_le _⟩), (cmp_start), ⟨rfl, rfl, rfl, rfl, trivial⟩, hF⟩ ?_
 clear hF; rintro μ σ w ⟨r, j, rfl, hj, hr, hs, hF⟩
 refine Cg.slots hs ?_
 clear hs; intro σ
 refine c_seq (c_seq (c_region (o_val (v := .int .i64 (r)) (x_move rfl) (o_val (v := .bool (decide ((r : Int) = (0 : Int)))) (x_eql rfl rfl) (o_val (v := .bool (decide ((r : Int) = (0 : Int)))) (x_move rfl) ?_)))))
 refine o_splitd (d := 47) (p := (r : Int) = (0 : Int)) rfl (fun hg0 => ?_) (fun hg0 => ?_)
 refine o_val (v := .int .i64 ((j : Int))) (x_move rfl) (o_val (v := .pointer (some ⟨b1, 2, none⟩)) (x_fieldAddrO fa_25_2 rfl) (o_val (v := .slice (A) (ks.length) (c)) (x_load Tryz.isAgg22 rfl (hF.cell 1 rfl rfl)) (o_val (v := .int .i64 ((ks.length : Nat))) (x_len_slice Tryz.underlying22 rfl) (o_val (v := .bool (decide (((j : Int) : Int) < ((ks.length : Nat) : Int)))) (x_lss rfl rfl) (o_val (v := .bool (decide (((j : Int) : Int) < ((ks.length : Nat) : Int)))) (x_pickt rfl rfl) (o_val (v := .bool (decide (((j : Int) : Int) < ((ks.length : Nat) : Int)))) (x_move rfl) ?_))))))
 refine o_splitd (d := 54) (p := ((j : Int) : Int) < ((ks.length : Nat) : Int)) rfl (fun hg1 => ?_) (fun hg1 => ?_)
 refine o_val (v := .int .i64 ((j : Int))) (x_move rfl) (o_val (v := .pointer (some ⟨b2, 2, none⟩)) (x_fieldAddrO fa_25_2 rfl) (o_val (v := .slice (A') (ks'.length) (c')) (x_load Tryz.isAgg22 rfl (hF.cell 0 rfl rfl)) (o_val (v := .int .i64 ((ks'.length : Nat))) (x_len_slice Tryz.underlying22 rfl) (o_val (v := .bool (decide (((j : Int) : Int) < ((ks'.length : Nat) : Int)))) (x_lss rfl rfl) (o_val (v := .bool (decide (((j : Int) : Int) < ((ks'.length : Nat) : Int)))) (x_pickt rfl rfl) (o_nil (e_seq ?_)))))))
 refine c_splitd (d := 60) (p := ((j : Int) : Int) < ((ks'.length : Nat) : Int)) rfl (fun hc3 => ?_) (fun hc3 => ?_)
 refine c_ift rfl (c_skip (e_seq (c_seq (c_block ?_))))
 refine c_drawF [] (.free 0 (.free 1 (.free 2 (.free 3 (.free 4 (.free 5 (.free 6 (.free 7 (.free 8 (.free 9 (.act 10 (.free 11 .nil)))))))))))) (by kernel_rfl) hF (by kernel_rfl) (by kernel_rfl) ?_
 clear hF; rintro w hF -
 refine ⟨fun wq => FR w0 [] [(b2, .cells #[.int .i64 (k'), .string (bs (t')), .slice (A') (ks'.length) (c'), .slice (B') (ys.length) (e')] 25), (b1, .cells #[.int .i64 (k), .string (bs (t)), .slice (A) (ks.length) (c), .slice (B) (xs.length) (e)] 25)] wq, hF, ?_⟩
 refine f_free rfl (v := .pointer (some ⟨b1, 2, none⟩)) (fun w hC => x_fieldAddrO fa_25_2 rfl) (f_free rfl (v := .slice (A) (ks.length) (c)) (fun w hC => x_load Tryz.isAgg22 rfl (hC.cell 1 rfl rfl)) (f_free rfl (v := .int .i64 ((j : Int))) (fun w hC => x_move rfl) ?_))
 obtain ⟨ad2, hA2, hk2, hx2⟩ := hK.str_elem (i := j) (by omega)
 refine f_free rfl (v := .pointer (some (ad2.add (j * 1)))) (fun w hC => x_indexAddrA (i := (j : Int)) sl_22 rfl hA2 rfl (by omega) (by omega)) (f_free rfl (v := .string (bs (ks[j]))) (fun w hC => x_load Tryz.isAgg9 rfl (hC.cell0 hk2)) (f_free rfl (v := .pointer (some ⟨b2, 2, none⟩)) (fun w hC => x_fieldAddrO fa_25_2 rfl) (f_free rfl (v := .slice (A') (ks'.length) (c')) (fun w hC => x_load Tryz.isAgg22 rfl (hC.cell 0 rfl rfl)) (f_free rfl (v := .int .i64 ((j : Int))) (fun w hC => x_move rfl) ?_))))
 obtain ⟨ad3, hA3, hk3, hx3⟩ := hK'.str_elem (i := j) (by omega)
 refine f_free rfl (v := .pointer (some (ad3.add (j * 1)))) (fun w hC => x_indexAddrA (i := (j : Int)) sl_22 rfl hA3 rfl (by omega) (by omega)) (f_free rfl (v := .string (bs (ks'[j]))) (fun w hC => x_load Tryz.isAgg9 rfl (hC.cell0 hk3)) ?_)
 refine f_call rfl (texts_c ks[j] ks'[j] _) (x_call2 en_108 rfl rfl rfl) ?_
 rintro _ w ⟨rfl, hE⟩
 replace hF := hF.ext hE
 clear hE
 refine ⟨hF, ?_⟩
 refine f_free rfl (v := .int .i64 (Lib.compareBytes ks[j] ks'[j])) (fun w hC => x_assign rfl) (d_nil (e_block (e_seq (c_region (o_val (v := .int .i64 ((j : Int))) (x_move rfl) (o_val (v := .int .i64 (((j + 1 : Nat) : Int))) (x_add rfl rfl (wrap_to (by omega) (by omega) (by omega))) (o_val (v := .int .i64 (((j + 1 : Nat) : Int))) (x_assign rfl) (o_nil ?_))))))))
 refine e_inv ⟨_, ?_, Lib.compareBytes ks[j] ks'[j], j + 1, rfl, (by omega), (cmp_next hr (by omega) (by omega) (by omega)), ⟨rfl, rfl, rfl, rfl, trivial⟩, hF⟩
 omega
 refine c_iff rfl ?_
 refine c_exit (e_exit rfl ?_)
 exact e_inv ⟨(r), (j), (hj), (hr), (by omega), ⟨rfl, rfl, rfl, trivial⟩, hF⟩
 refine o_off (o_off (o_off (o_off (o_off (o_val (v := .bool false) (x_pickf rfl rfl) (o_nil (e_seq (c_iff rfl ?_))))))))
 refine c_exit (e_exit rfl ?_)
 exact e_inv ⟨(r), (j), (hj), (hr), (by omega), ⟨rfl, rfl, rfl, trivial⟩, hF⟩
 refine o_off (o_off (o_off (o_off (o_off (o_val (v := .bool false) (x_pickf rfl rfl) (o_val (v := .bool false) (x_move rfl) (o_off (o_off (o_off (o_off (o_off (o_val (v := .bool false) (x_pickf rfl rfl) (o_nil ?_)))))))))))))
 refine e_seq (c_iff rfl ?_)
 refine c_exit (e_exit rfl ?_)
 exact e_inv ⟨(r), (j), (hj), (hr), (by omega), ⟨rfl, rfl, rfl, trivial⟩, hF⟩
 clear hF; rintro σ w ⟨r1, j1, hj1, hr1, he1, hs, hF⟩
 refine Eg.slots hs ?_
 clear hs; intro σ
 refine e_seq (c_seq ?_)
 refine c_join (fun σ w => ∃ (q : Int), (q = stepC (Lib.compareBytes t t') (cmpL Lib.compareBytes ks ks')) ∧ AllEq σ [(2, .pointer (some ⟨b1, 0, none⟩)), (3, .pointer (some ⟨b2, 0, none⟩)), (9, .int .i64 (q))] ∧ FR w0 [] [(b2, .cells #[.int .i64 (k'), .string (bs (t')), .slice (A') (ks'.length) (c'), .slice (B') (ys.length) (e')] 25), (b1, .cells #[.int .i64 (k), .string (bs (t)), .slice (A) (ks.length) (c), .slice (B) (xs.length) (e)] 25)] w) ?_ ?_
 refine c_seq (c_region (o_val (v := .int .i64 (r1)) (x_move rfl) (o_val (v := .bool (decide ((r1 : Int) = (0 : Int)))) (x_eql rfl rfl) (o_val (v := .bool (decide ((r1 : Int) = (0 : Int)))) (x_move rfl) ?_))))
 refine o_splitd (d := 76) (p := (r1 : Int) = (0 : Int)) rfl (fun hg4 => ?_) (fun hg4 => ?_)
 refine o_val (v := .pointer (some ⟨b1, 0, none⟩)) (x_fieldAddrO fa_25_0 rfl) (o_val (v := .int .i64 (k)) (x_load Tryz.isAgg3 rfl (hF.cell 1 rfl rfl)) (o_val (v := .bool (decide ((k : Int) = (6 : Int)))) (x_eql rfl rfl) (o_val (v := .bool (decide ((k : Int) = (6 : Int)))) (x_pickt rfl rfl) (o_val (v := .bool (decide ((k : Int) = (6 : Int)))) (x_move rfl) ?_))))
 refine o_splitd (d := 81) (p := (k : Int) = (6 : Int)) rfl (fun hg5 => ?_) (fun hg5 => ?_)
 refine o_val (v := .pointer (some ⟨b1, 2, none⟩)) (x_fieldAddrO fa_25_2 rfl) (o_val (v := .slice (A) (ks.length) (c)) (x_load Tryz.isAgg22 rfl (hF.cell 1 rfl rfl)) (o_val (v := .int .i64 ((ks.length : Nat))) (x_len_slice Tryz.underlying22 rfl) (o_val (v := .pointer (some ⟨b2, 2, none⟩)) (x_fieldAddrO fa_25_2 rfl) (o_val (v := .slice (A') (ks'.length) (c')) (x_load Tryz.isAgg22 rfl (hF.cell 0 rfl rfl)) (o_val (v := .int .i64 ((ks'.length : Nat))) (x_len_slice Tryz.underlying22 rfl) (o_val (v := .bool (decide (((ks.length : Nat) : Int) ≠ ((ks'.length : Nat) : Int)))) (x_neq rfl rfl) (o_val (v := .bool (decide (((ks.length : Nat) : Int) ≠ ((ks'.length : Nat) : Int)))) (x_pickt rfl rfl) (o_nil (e_seq ?_)))))))))
 refine c_splitd (d := 89) (p := ((ks.length : Nat) : Int) ≠ ((ks'.length : Nat) : Int)) rfl (fun hc4 => ?_) (fun hc4 => ?_)
 refine c_ift rfl (c_seq (c_region (o_val (v := .int .i64 (1)) (x_assign rfl) (o_nil (e_seq (c_seq (c_region (o_val (v := .pointer (some ⟨b1, 2, none⟩)) (x_fieldAddrO fa_25_2 rfl) (o_val (v := .slice (A) (ks.length) (c)) (x_load Tryz.isAgg22 rfl (hF.cell 1 rfl rfl)) (o_val (v := .int .i64 ((ks.length : Nat))) (x_len_slice Tryz.underlying22 rfl) (o_val (v := .pointer (some ⟨b2, 2, none⟩)) (x_fieldAddrO fa_25_2 rfl) (o_val (v := .slice (A') (ks'.length) (c')) (x_load Tryz.isAgg22 rfl (hF.cell 0 rfl rfl)) (o_val (v := .int .i64 ((ks'.length : Nat))) (x_len_slice Tryz.underlying22 rfl) ?_)))))))))))))
 refine o_val (v := .bool (decide (((ks.length : Nat) : Int) < ((ks'.length : Nat) : Int)))) (x_lss rfl rfl) (o_nil (e_seq ?_))
 refine c_splitd (d := 96) (p := ((ks.length : Nat) : Int) < ((ks'.length : Nat) : Int)) rfl (fun hc5 => ?_) (fun hc5 => ?_)
 refine c_ift rfl (c_region (o_val (v := .int .i64 ((-1))) (x_assign rfl) (o_nil ?_)))
 exact e_inv ⟨((-1)), (cmp_end hr1 he1 hj1 (by omega)), ⟨rfl, rfl, rfl, trivial⟩, hF⟩
 refine c_iff rfl (c_skip ?_)
 exact e_inv ⟨(1), (cmp_end hr1 he1 hj1 (by omega)), ⟨rfl, rfl, rfl, trivial⟩, hF⟩
 refine c_iff rfl (c_skip ?_)
 exact e_inv ⟨(r1), (cmp_end hr1 he1 hj1 (by omega)), ⟨rfl, rfl, rfl, trivial⟩, hF⟩
 refine o_off (o_off (o_off (o_off (o_off (o_off (o_off (o_val (v := .bool false) (x_pickf rfl rfl) (o_nil (e_seq (c_iff rfl (c_skip ?_)))))))))))
 exact e_inv ⟨(r1), (cmp_end hr1 he1 hj1 (by omega)), ⟨rfl, rfl, rfl, trivial⟩, hF⟩
 refine o_off (o_off (o_off (o_val (v := .bool false) (x_pickf rfl rfl) (o_val (v := .bool false) (x_move rfl) (o_off (o_off (o_off (o_off (o_off (o_off (o_off (o_val (v := .bool false) (x_pickf rfl rfl) (o_nil ?_)))))))))))))
 refine e_seq (c_iff rfl (c_skip ?_))
 exact e_inv ⟨(r1), (cmp_end hr1 he1 hj1 (by omega)), ⟨rfl, rfl, rfl, trivial⟩, hF⟩
 clear hF; rintro σ w ⟨q, hq, hs, hF⟩
 refine Eg.slots hs ?_
 clear hs; intro σ
 refine e_seq (c_seq ?_)
 refine c_join (fun σ w => ∃ (r3 : Int), ∃ (i3 : Nat), (i3 ≤ xs.length ∧ i3 ≤ ys.length) ∧ (stepC q (cmpL orderT xs ys) = stepC r3 (cmpL orderT (xs.drop i3) (ys.drop i3))) ∧ (r3 ≠ 0 ∨ xs.length ≤ i3 ∨ ys.length ≤ i3) ∧ AllEq σ [(2, .pointer (some ⟨b1, 0, none⟩)), (3, .pointer (some ⟨b2, 0, none⟩)), (9, .int .i64 (r3))] ∧ FR w0 [] [(b2, .cells #[.int .i64 (k'), .string (bs (t')), .slice (A') (ks'.length) (c'), .slice (B') (ys.length) (e')] 25), (b1, .cells #[.int .i64 (k), .string (bs (t)), .slice (A) (ks.length) (c), .slice (B) (xs.length) (e)] 25)] w) ?_ ?_
 refine c_seq (c_region (o_val (v := .int .i64 (0)) (x_assign rfl) (o_nil (e_seq (c_block ?_)))))
 refine c_loop (fun μ σ w => ∃ (r2 : Int), ∃ (i : Nat), μ = xs.length - i ∧ (i ≤ xs.length ∧ i ≤ ys.length) ∧ (stepC q (cmpL orderT xs ys) = stepC r2 (cmpL orderT (xs.drop i) (ys.drop i))) ∧ AllEq σ [(2, .pointer (some ⟨b1, 0, none⟩)), (3, .pointer (some ⟨b2, 0, none⟩)), (9, .int .i64 (r2)), (11, .int .i64 ((i : Int)))] ∧ FR w0 [] [(b2, .cells #[.int .i64 (k'), .string (bs (t')), .slice (A') (ks'.length) (c'), .slice (B') (ys.length) (e')] 25), (b1, .cells #[.int .i64 (k), .string (bs (t)), .slice (A) (ks.length) (c), .slice (B) (xs.length) (e)] 25)] w) _ ⟨q, 0, rfl, (⟨Nat.zero_le _, Nat.zero_le _⟩), (cmp_start), ⟨rfl, rfl, rfl, rfl, trivial⟩, hF⟩ ?_
 clear hF; rintro μ σ w ⟨r2, i, rfl, hi, hr2, hs, hF⟩
 refine Cg.slots hs ?_
 clear hs; intro σ
 refine c_seq (c_seq (c_region (o_val (v := .int .i64 (r2)) (x_move rfl) (o_val (v := .bool (decide ((r2 : Int) = (0 : Int)))) (x_eql rfl rfl) (o_val (v := .bool (decide ((r2 : Int) = (0 : Int)))) (x_move rfl) ?_)))))
 refine o_splitd (d := 99) (p := (r2 : Int) = (0 : Int)) rfl (fun hg6 => ?_) (fun hg6 => ?_)
 refine o_val (v := .int .i64 ((i : Int))) (x_move rfl) (o_val (v := .pointer (some ⟨b1, 3, none⟩)) (x_fieldAddrO fa_25_3 rfl) (o_val (v := .slice (B) (xs.length) (e)) (x_load Tryz.isAgg23 rfl (hF.cell 1 rfl rfl)) (o_val (v := .int .i64 ((xs.length : Nat))) (x_len_slice Tryz.underlying23 rfl) (o_val (v := .bool (decide (((i : Int) : Int) < ((xs.length : Nat) : Int)))) (x_lss rfl rfl) (o_val (v := .bool (decide (((i : Int) : Int) < ((xs.length : Nat) : Int)))) (x_pickt rfl rfl) (o_val (v := .bool (decide (((i : Int) : Int) < ((xs.length : Nat) : Int)))) (x_move rfl) ?_))))))
 refine o_splitd (d := 106) (p := ((i : Int) : Int) < ((xs.length : Nat) : Int)) rfl (fun hg7 => ?_) (fun hg7 => ?_)
 refine o_val (v := .int .i64 ((i : Int))) (x_move rfl) (o_val (v := .pointer (some ⟨b2, 3, none⟩)) (x_fieldAddrO fa_25_3 rfl) (o_val (v := .slice (B') (ys.length) (e')) (x_load Tryz.isAgg23 rfl (hF.cell 0 rfl rfl)) (o_val (v := .int .i64 ((ys.length : Nat))) (x_len_slice Tryz.underlying23 rfl) (o_val (v := .bool (decide (((i : Int) : Int) < ((ys.length : Nat) : Int)))) (x_lss rfl rfl) (o_val (v := .bool (decide (((i : Int) : Int) < ((ys.length : Nat) : Int)))) (x_pickt rfl rfl) (o_nil (e_seq ?_)))))))
 refine c_splitd (d := 112) (p := ((i : Int) : Int) < ((ys.length : Nat) : Int)) rfl (fun hc6 => ?_) (fun hc6 => ?_)
 refine c_ift rfl (c_skip (e_seq (c_seq (c_block ?_))))
 refine c_drawF [] (.free 0 (.free 1 (.free 2 (.free 3 (.free 4 (.free 5 (.free 6 (.free 7 (.free 8 (.free 9 (.act 10 (.free 11 .nil)))))))))))) (by kernel_rfl) hF (by kernel_rfl) (by kernel_rfl) ?_
 clear hF; rintro w hF -
 refine ⟨fun wq => FR w0 [] [(b2, .cells #[.int .i64 (k'), .string (bs (t')), .slice (A') (ks'.length) (c'), .slice (B') (ys.length) (e')] 25), (b1, .cells #[.int .i64 (k), .string (bs (t)), .slice (A) (ks.length) (c), .slice (B) (xs.length) (e)] 25)] wq, hF, ?_⟩
 refine f_free rfl (v := .pointer (some ⟨b1, 3, none⟩)) (fun w hC => x_fieldAddrO fa_25_3 rfl) (f_free rfl (v := .slice (B) (xs.length) (e)) (fun w hC => x_load Tryz.isAgg23 rfl (hC.cell 1 rfl rfl)) (f_free rfl (v := .int .i64 ((i : Int))) (fun w hC => x_move rfl) ?_))
 obtain ⟨ad8, cs8, hA8, hl8, hk8, hx8⟩ := hX.tree_elem (i := i) (by omega)
 have ho8 := hx8.one_
 refine f_free rfl (v := .pointer (some (ad8.add (i * 4)))) (fun w hC => x_indexAddrA (i := (i : Int)) sl_23 rfl hA8 rfl (by omega) (by omega)) (f_free rfl (v := .agg (List.toArray cs8)) (fun w hC => x_loadS (l := cs8) Tryz.isAgg25 Tryz.sizeOf25 rfl hl8 (hC.cells0 hk8)) (f_free rfl (v := .pointer (some ⟨b2, 3, none⟩)) (fun w hC => x_fieldAddrO fa_25_3 rfl) (f_free rfl (v := .slice (B') (ys.length) (e')) (fun w hC => x_load Tryz.isAgg23 rfl (hC.cell 0 rfl rfl)) (f_free rfl (v := .int .i64 ((i : Int))) (fun w hC => x_move rfl) ?_))))
 obtain ⟨ad9, cs9, hA9, hl9, hk9, hx9⟩ := hY.tree_elem (i := i) (by omega)
 have ho9 := hx9.one_
 refine f_free rfl (v := .pointer (some (ad9.add (i * 4)))) (fun w hC => x_indexAddrA (i := (i : Int)) sl_23 rfl hA9 rfl (by omega) (by omega)) (f_free rfl (v := .agg (List.toArray cs9)) (fun w hC => x_loadS (l := cs9) Tryz.isAgg25 Tryz.sizeOf25 rfl hl9 (hC.cells0 hk9)) ?_)
 refine f_call rfl (ih xs[i] (List.getElem_mem (by omega)) ys[i] _ _ _ cs8 cs9 (hF.rep hx8) (hF.rep hx9) (okCs_mem hk.2.2 _ (List.getElem_mem (by omega))) (okCs_mem hk'.2.2 _ (List.getElem_mem (by omega)))) (x_call2 en_72 rfl rfl rfl) ?_
 rintro _ w ⟨rfl, hE⟩
 replace hF := hF.ext hE
 clear hE
 refine ⟨hF, ?_⟩
 refine f_free rfl (v := .int .i64 (orderT xs[i] ys[i])) (fun w hC => x_assign rfl) (d_nil (e_block (e_seq (c_region (o_val (v := .int .i64 ((i : Int))) (x_move rfl) (o_val (v := .int .i64 (((i + 1 : Nat) : Int))) (x_add rfl rfl (wrap_to (by omega) (by omega) (by omega))) (o_val (v := .int .i64 (((i + 1 : Nat) : Int))) (x_assign rfl) (o_nil ?_))))))))
 refine e_inv ⟨_, ?_, orderT xs[i] ys[i], i + 1, rfl, (by omega), (cmp_next hr2 (by omega) (by omega) (by omega)), ⟨rfl, rfl, rfl, rfl, trivial⟩, hF⟩
 omega
 refine c_iff rfl ?_
 refine c_exit (e_exit rfl ?_)
 exact e_inv ⟨(r2), (i), (hi), (hr2), (by omega), ⟨rfl, rfl, rfl, trivial⟩, hF⟩
 refine o_off (o_off (o_off (o_off (o_off (o_val (v := .bool false) (x_pickf rfl rfl) (o_nil (e_seq (c_iff rfl ?_))))))))
 refine c_exit (e_exit rfl ?_)
 exact e_inv ⟨(r2), (i), (hi), (hr2), (by omega), ⟨rfl, rfl, rfl, trivial⟩, hF⟩
 refine o_off (o_off (o_off (o_off (o_off (o_val (v := .bool false) (x_pickf rfl rfl) (o_val (v := .bool false) (x_move rfl) (o_off (o_off (o_off (o_off (o_off (o_val (v := .bool false) (x_pickf rfl rfl) (o_nil ?_)))))))))))))
 refine e_seq (c_iff rfl ?_)
 refine c_exit (e_exit rfl ?_)
 exact e_inv ⟨(r2), (i), (hi), (hr2), (by omega), ⟨rfl, rfl, rfl, trivial⟩, hF⟩
 clear hF; rintro σ w ⟨r3, i3, hj3, hr3, he3, hs, hF⟩
 refine Eg.slots hs ?_
 clear hs; intro σ
 refine e_seq (c_seq ?_)
 refine c_join (fun σ w => ∃ (q2 : Int), (q2 = stepC q (cmpL orderT xs ys)) ∧ AllEq σ [(9, .int .i64 (q2))] ∧ FR w0 [] [(b2, .cells #[.int .i64 (k'), .string (bs (t')), .slice (A') (ks'.length) (c'), .slice (B') (ys.length) (e')] 25), (b1, .cells #[.int .i64 (k), .string (bs (t)), .slice (A) (ks.length) (c), .slice (B) (xs.length) (e)] 25)] w) ?_ ?_
 refine c_seq (c_region (o_val (v := .int .i64 (r3)) (x_move rfl) (o_val (v := .bool (decide ((r3 : Int) = (0 : Int)))) (x_eql rfl rfl) (o_val (v := .bool (decide ((r3 : Int) = (0 : Int)))) (x_move rfl) ?_))))
 refine o_splitd (d := 128) (p := (r3 : Int) = (0 : Int)) rfl (fun hg10 => ?_) (fun hg10 => ?_)
 refine o_val (v := .pointer (some ⟨b1, 3, none⟩)) (x_fieldAddrO fa_25_3 rfl) (o_val (v := .slice (B) (xs.length) (e)) (x_load Tryz.isAgg23 rfl (hF.cell 1 rfl rfl)) (o_val (v := .int .i64 ((xs.length : Nat))) (x_len_slice Tryz.underlying23 rfl) (o_val (v := .pointer (some ⟨b2, 3, none⟩)) (x_fieldAddrO fa_25_3 rfl) (o_val (v := .slice (B') (ys.length) (e')) (x_load Tryz.isAgg23 rfl (hF.cell 0 rfl rfl)) (o_val (v := .int .i64 ((ys.length : Nat))) (x_len_slice Tryz.underlying23 rfl) (o_val (v := .bool (decide (((xs.length : Nat) : Int) ≠ ((ys.length : Nat) : Int)))) (x_neq rfl rfl) (o_val (v := .bool (decide (((xs.length : Nat) : Int) ≠ ((ys.length : Nat) : Int)))) (x_pickt rfl rfl) (o_nil (e_seq ?_)))))))))
 refine c_splitd (d := 136) (p := ((xs.length : Nat) : Int) ≠ ((ys.length : Nat) : Int)) rfl (fun hc7 => ?_) (fun hc7 => ?_)
 refine c_ift rfl (c_seq (c_region (o_val (v := .int .i64 (1)) (x_assign rfl) (o_nil (e_seq (c_seq (c_region (o_val (v := .pointer (some ⟨b1, 3, none⟩)) (x_fieldAddrO fa_25_3 rfl) (o_val (v := .slice (B) (xs.length) (e)) (x_load Tryz.isAgg23 rfl (hF.cell 1 rfl rfl)) (o_val (v := .int .i64 ((xs.length : Nat))) (x_len_slice Tryz.underlying23 rfl) (o_val (v := .pointer (some ⟨b2, 3, none⟩)) (x_fieldAddrO fa_25_3 rfl) (o_val (v := .slice (B') (ys.length) (e')) (x_load Tryz.isAgg23 rfl (hF.cell 0 rfl rfl)) (o_val (v := .int .i64 ((ys.length : Nat))) (x_len_slice Tryz.underlying23 rfl) ?_)))))))))))))
 refine o_val (v := .bool (decide (((xs.length : Nat) : Int) < ((ys.length : Nat) : Int)))) (x_lss rfl rfl) (o_nil (e_seq ?_))
 refine c_splitd (d := 143) (p := ((xs.length : Nat) : Int) < ((ys.length : Nat) : Int)) rfl (fun hc8 => ?_) (fun hc8 => ?_)
 refine c_ift rfl (c_region (o_val (v := .int .i64 ((-1))) (x_assign rfl) (o_nil ?_)))
 exact e_inv ⟨((-1)), (cmp_end hr3 he3 hj3 (by omega)), ⟨rfl, trivial⟩, hF⟩
 refine c_iff rfl (c_skip ?_)
 exact e_inv ⟨(1), (cmp_end hr3 he3 hj3 (by omega)), ⟨rfl, trivial⟩, hF⟩
 refine c_iff rfl (c_skip ?_)
 exact e_inv ⟨(r3), (cmp_end hr3 he3 hj3 (by omega)), ⟨rfl, trivial⟩, hF⟩
 refine o_off (o_off (o_off (o_off (o_off (o_off (o_off (o_val (v := .bool false) (x_pickf rfl rfl) (o_nil (e_seq (c_iff rfl (c_skip ?_)))))))))))
 exact e_inv ⟨(r3), (cmp_end hr3 he3 hj3 (by omega)), ⟨rfl, trivial⟩, hF⟩
 clear hF; rintro σ w ⟨q2, hq2, hs, hF⟩
 refine Eg.slots hs ?_
 clear hs; intro σ
 refine e_seq (c_seq (c_region (o_val (v := .int .i64 (q2)) (x_move rfl) (o_val (v := .int .i64 (q2)) (x_assign rfl) (o_nil (e_seq ?_))))))
 refine c_ret (e_ret (post_ret (res_1 (v := .int .i64 (q2)) rfl rfl) ?_))
 obtain rfl : k = k' := by omega
 exact ⟨by rw [order_alike (by omega), hq2, hq], hF.same⟩
theorem rcmpT_c (x : Tree) : RCmpC x := Tree.ind rcmp_step x
set_option maxHeartbeats 1000000 in
set_option maxRecDepth 10000 in
theorem rsortedV_c (x : Tree) (hsz : sizeT x ≤ 1000000000) (hm : maxL x ≤ 1073741824) (S : Nat → Prop) (w0 : World) (cs : List Value) (hR : Rep S w0 (treeD x) cs) : NewC 45 #[.agg cs.toArray] (treeD (sortedV x)) w0 := by
 have hl : cs.length = 4 := hR.length.trans (size_treeD x)
 have ho := hR.one_
 refine calls_start Tryz.func45 rfl Tryz.ntmps45 (Nat.le_of_ble_eq_true rfl) (args_1 _) ?_
 have hF := FR.start w0 []
 refine c_seq (c_region ?_)
 refine o_box (v := .agg (List.toArray cs)) (cs := (List.toArray cs)) hF rfl rfl ?_
 clear hF; rintro b1 w hb1 hF -
 refine o_alloc (cs := #[.int .i64 (0), .string (bs ([])), .slice (none) (0) (0), .slice (none) (0) (0)]) hF Tryz.zeroValue25 rfl ?_
 clear hF; rintro b2 w hb2 hF -
 refine o_nil (e_seq (c_seq (c_region (o_val (v := .agg (List.toArray cs)) (x_loadS (l := cs) Tryz.isAgg25 Tryz.sizeOf25 rfl hl (hF.cellsAll 1 rfl)) ?_))))
 refine o_call (ropen_t x hsz hm S _ cs (hF.rep hR)) (x_call1 en_34 rfl rfl) ?_
 rintro _ w ⟨rfl, hE⟩
 replace hF := hF.ext hE
 clear hE
 refine o_val (v := .bool (openB x)) (x_assign rfl) (o_nil (e_seq (c_seq (c_seq (c_region (o_val (v := .bool (openB x)) (x_move rfl) (o_val (v := .bool (!(openB x))) (x_not rfl) (o_nil (e_seq ?_)))))))))
 refine c_split (d := 7) (b := !(openB x)) rfl (fun hc0 => ?_) (fun hc0 => ?_)
 refine c_ift rfl (c_seq (c_region ?_))
 refine o_val (w' := w) (v := .agg #[.int .i64 (0), .string (bs ([])), .slice (none) (0) (0), .slice (none) (0) (0)]) (by kernel_rfl) ?_
 refine o_store 0 (l := [.int .i64 (0), .string (bs ([])), .slice (none) (0) (0), .slice (none) (0) (0)]) (cs' := #[.int .i64 (0), .string (bs ([])), .slice (none) (0) (0), .slice (none) (0) (0)]) hF Tryz.sizeOf25 rfl (v := .agg #[.int .i64 (0), .string (bs ([])), .slice (none) (0) (0), .slice (none) (0) (0)]) rfl rfl (by simp [one]) rfl (Nat.le_of_ble_eq_true rfl) rfl ?_
 clear hF; rintro w hF -
 replace hF : FR w0 [] [(b2, .cells #[.int .i64 (0), .string (bs ([])), .slice (none) (0) (0), .slice (none) (0) (0)] 25), (b1, .cells (List.toArray cs) 25)] w := hF
 refine o_nil (e_seq ?_)
 refine c_ret (e_ret (post_ret (res_c rfl (l := [.int .i64 (0), .string (bs ([])), .slice (none) (0) (0), .slice (none) (0) (0)]) rfl Tryz.isAgg25 Tryz.sizeOf25 rfl (hF.cellsAll 0 rfl)) ?_))
 have ho_ : openB x = false := nb_true (by assumption)
 refine ⟨_, rfl, ?_, hF.same⟩
 rw [sortedV, ho_]
 exact zero_rep _ _
 refine c_iff rfl (c_skip (e_seq (c_seq (c_region (o_val (v := .agg (List.toArray cs)) (x_loadS (l := cs) Tryz.isAgg25 Tryz.sizeOf25 rfl hl (hF.cellsAll 1 rfl)) ?_)))))
 refine o_call (rsortT_c x S _ cs (hF.rep hR) (open_all (nb_false (by assumption))) hsz) (x_call1 en_70 rfl rfl) ?_
 rintro _ w ⟨ct, rfl, hRt, hE⟩
 have hlct : ct.length = 4 := hRt.length.trans (size_treeD _)
 have hoct := hRt.one_
 have hXX := RX.made (ids := [b2, b1]) hF.same.size (fun x hx => hF.lt_ids (by grind)) hRt
 replace hF := hF.ext hE
 clear hE hRt
 refine o_store 0 (l := ct) (cs' := (List.toArray ct)) hF (by rw [hlct]; exact Tryz.sizeOf25) rfl (v := .agg (List.toArray ct)) rfl rfl (hoct) rfl (by rw [hlct]; exact Nat.le_of_ble_eq_true rfl) (putA_all (by rw [hlct]; rfl)) ?_
 clear hF; intro w hF hE
 replace hXX := hXX.store hE (by grind)
 clear hE
 replace hF : FR w0 [] [(b2, .cells (List.toArray ct) 25), (b1, .cells (List.toArray cs) 25)] w := hF
 refine o_nil (e_seq ?_)
 refine c_ret (e_ret (post_ret (res_c rfl (l := ct) rfl Tryz.isAgg25 Tryz.sizeOf25 hlct (hF.cellsAll 0 rfl)) ?_))
 have ho_ : openB x = true := nb_false (by assumption)
 refine ⟨_, rfl, ?_, hF.same⟩
 rw [sortedV, ho_]
 · exact hXX.done
set_option maxHeartbeats 1000000 in
set_option maxRecDepth 10000 in
theorem rcompareV_c (x y : Tree) (hsx : sizeT x ≤ 1000000000) (hsy : sizeT y ≤ 1000000000) (hmx : maxL x ≤ 1073741824) (hmy : maxL y ≤ 1073741824) (S S' : Nat → Prop) (w0 : World) (cs ct : List Value) (hR : Rep S w0 (treeD x) cs) (hR' : Rep S' w0 (treeD y) ct) : Calls Tryz.prog 48 #[.agg cs.toArray, .agg ct.toArray] w0 (Ret fun v w' => v = .int .i64 (compareV x y) ∧ Same [] w0 w') := by
 have hl : cs.length = 4 := hR.length.trans (size_treeD x)
 have ho := hR.one_
 have hl' : ct.length = 4 := hR'.length.trans (size_treeD y)
 have ho' := hR'.one_
 refine calls_start Tryz.func48 rfl Tryz.ntmps48 (Nat.le_of_ble_eq_true rfl) (args_2 _ _) ?_
 have hF := FR.start w0 []
 refine c_seq (c_region ?_)
 refine o_box (v := .agg (List.toArray cs)) (cs := (List.toArray cs)) hF rfl rfl ?_
 clear hF; rintro b1 w hb1 hF -
 refine o_box (v := .agg (List.toArray ct)) (cs := (List.toArray ct)) hF rfl rfl ?_
 clear hF; rintro b2 w hb2 hF -
 refine o_val (v := .int .i64 (0)) (x_assign rfl) (o_nil (e_seq (c_seq (c_region (o_val (v := .agg (List.toArray cs)) (x_loadS (l := cs) Tryz.isAgg25 Tryz.sizeOf25 rfl hl (hF.cellsAll 1 rfl)) ?_)))))
 refine o_call (ropen_t x hsx hmx S _ cs (hF.rep hR)) (x_call1 en_34 rfl rfl) ?_
 rintro _ w ⟨rfl, hE⟩
 replace hF := hF.ext hE
 clear hE
 refine o_val (v := .bool (openB x)) (x_assign rfl) (o_nil (e_seq (c_seq (c_region (o_val (v := .agg (List.toArray ct)) (x_loadS (l := ct) Tryz.isAgg25 Tryz.sizeOf25 rfl hl' (hF.cellsAll 0 rfl)) ?_)))))
 refine o_call (ropen_t y hsy hmy S' _ ct (hF.rep hR')) (x_call1 en_34 rfl rfl) ?_
 rintro _ w ⟨rfl, hE⟩
 replace hF := hF.ext hE
 clear hE
 refine o_val (v := .bool (openB y)) (x_assign rfl) (o_nil (e_seq (c_seq (c_seq (c_region (o_val (v := .bool (openB x)) (x_move rfl) (o_val (v := .bool (!(openB x))) (x_not rfl) (o_val (v := .bool (!(openB x))) (x_move rfl) ?_))))))))
 refine o_split (d := 13) (b := !(openB x)) rfl (fun hg0 => ?_) (fun hg0 => ?_)
 refine o_off (o_off (o_val (v := .bool true) (x_pickt rfl rfl) (o_nil (e_seq (c_ift rfl (c_seq (c_seq (c_region (o_val (v := .bool (openB x)) (x_move rfl) (o_nil (e_seq ?_)))))))))))
 refine c_split (d := 17) (b := openB x) rfl (fun hc1 => ?_) (fun hc1 => ?_)
 refine c_ift rfl (c_seq (c_region (o_val (v := .int .i64 (1)) (x_assign rfl) (o_nil (e_seq ?_)))))
 refine c_ret (e_ret (post_ret (res_1 (v := .int .i64 (1)) rfl rfl) ?_))
 refine ⟨congrArg (Value.int .i64) ?_, hF.same⟩
 unfold compareV
 simp_all
 refine c_iff rfl (c_skip (e_seq (c_seq (c_seq (c_region (o_val (v := .bool (openB y)) (x_move rfl) (o_nil (e_seq ?_))))))))
 refine c_split (d := 18) (b := openB y) rfl (fun hc2 => ?_) (fun hc2 => ?_)
 refine c_ift rfl (c_seq (c_region (o_val (v := .int .i64 ((-1))) (x_assign rfl) (o_nil (e_seq ?_)))))
 refine c_ret (e_ret (post_ret (res_1 (v := .int .i64 ((-1))) rfl rfl) ?_))
 refine ⟨congrArg (Value.int .i64) ?_, hF.same⟩
 unfold compareV
 simp_all
 refine c_iff rfl (c_skip (e_seq (c_seq (c_region (o_val (v := .int .i64 (0)) (x_assign rfl) (o_nil (e_seq ?_)))))))
 refine c_ret (e_ret (post_ret (res_1 (v := .int .i64 (0)) rfl rfl) ?_))
 refine ⟨congrArg (Value.int .i64) ?_, hF.same⟩
 unfold compareV
 simp_all
 refine o_val (v := .bool (openB y)) (x_move rfl) (o_val (v := .bool (!(openB y))) (x_not rfl) (o_val (v := .bool (!(openB y))) (x_pickf rfl rfl) (o_nil (e_seq ?_))))
 refine c_split (d := 16) (b := !(openB y)) rfl (fun hc0 => ?_) (fun hc0 => ?_)
 refine c_ift rfl (c_seq (c_seq (c_region (o_val (v := .bool (openB x)) (x_move rfl) (o_nil (e_seq ?_))))))
 refine c_split (d := 17) (b := openB x) rfl (fun hc1 => ?_) (fun hc1 => ?_)
 refine c_ift rfl (c_seq (c_region (o_val (v := .int .i64 (1)) (x_assign rfl) (o_nil (e_seq ?_)))))
 refine c_ret (e_ret (post_ret (res_1 (v := .int .i64 (1)) rfl rfl) ?_))
 refine ⟨congrArg (Value.int .i64) ?_, hF.same⟩
 unfold compareV
 simp_all
 refine c_iff rfl (c_skip (e_seq (c_seq (c_seq (c_region (o_val (v := .bool (openB y)) (x_move rfl) (o_nil (e_seq ?_))))))))
 refine c_split (d := 18) (b := openB y) rfl (fun hc2 => ?_) (fun hc2 => ?_)
 refine c_ift rfl (c_seq (c_region (o_val (v := .int .i64 ((-1))) (x_assign rfl) (o_nil (e_seq ?_)))))
 refine c_ret (e_ret (post_ret (res_1 (v := .int .i64 ((-1))) rfl rfl) ?_))
 refine ⟨congrArg (Value.int .i64) ?_, hF.same⟩
 unfold compareV
 simp_all
 refine c_iff rfl (c_skip (e_seq (c_seq (c_region (o_val (v := .int .i64 (0)) (x_assign rfl) (o_nil (e_seq ?_)))))))
 refine c_ret (e_ret (post_ret (res_1 (v := .int .i64 (0)) rfl rfl) ?_))
 refine ⟨congrArg (Value.int .i64) ?_, hF.same⟩
 unfold compareV
 simp_all
 refine c_iff rfl (c_skip (e_seq (c_seq ?_)))
 refine c_drawF [] (.free 0 (.free 2 (.act 1 (.act 3 (.act 4 (.free 5 .nil)))))) (by kernel_rfl) hF (by kernel_rfl) (by kernel_rfl) ?_
 clear hF; rintro w hF -
 refine ⟨fun wq => FR w0 [] [(b2, .cells (List.toArray ct) 25), (b1, .cells (List.toArray cs) 25)] wq, hF, ?_⟩
 refine f_free rfl (v := .agg (List.toArray cs)) (fun w hC => x_loadS (l := cs) Tryz.isAgg25 Tryz.sizeOf25 rfl hl (hC.cellsAll 1 rfl)) (f_free rfl (v := .agg (List.toArray ct)) (fun w hC => x_loadS (l := ct) Tryz.isAgg25 Tryz.sizeOf25 rfl hl' (hC.cellsAll 0 rfl)) ?_)
 refine f_call rfl (rsortT_c x _ _ cs (hF.rep hR) (open_all (nb_false (by assumption))) hsx) (x_call1 en_70 rfl rfl) ?_
 rintro _ w ⟨cx, rfl, hRt, hE⟩
 have hlcx : cx.length = 4 := hRt.length.trans (size_treeD _)
 have hocx := hRt.one_
 have hXX := RX.made (ids := [b2, b1]) hF.same.size (fun x hx => hF.lt_ids (by grind)) hRt
 replace hF := hF.ext hE
 clear hE hRt
 refine ⟨hF, ?_⟩
 refine f_call rfl (rsortT_c y _ _ ct (hF.rep hR') (open_all (nb_false (by assumption))) hsy) (x_call1 en_70 rfl rfl) ?_
 rintro _ w ⟨cy, rfl, hRt, hE⟩
 have hlcy : cy.length = 4 := hRt.length.trans (size_treeD _)
 have hocy := hRt.one_
 have hYX := RX.made (ids := [b2, b1]) hF.same.size (fun x hx => hF.lt_ids (by grind)) hRt
 replace hXX := hXX.ext hE
 replace hF := hF.ext hE
 clear hE hRt
 refine ⟨hF, ?_⟩
 refine f_call rfl (rcmpT_c (sortT x) (sortT y) _ _ _ cx cy hXX.rep hYX.rep (okC_sort x hmx) (okC_sort y hmy)) (x_call2 en_72 rfl rfl rfl) ?_
 rintro _ w ⟨rfl, hE⟩
 replace hF := hF.ext hE
 replace hXX := hXX.ext hE
 replace hYX := hYX.ext hE
 clear hE
 refine ⟨hF, ?_⟩
 refine f_free rfl (v := .int .i64 (orderT (sortT x) (sortT y))) (fun w hC => x_assign rfl) (d_nil (e_seq ?_))
 refine c_ret (e_ret (post_ret (res_1 (v := .int .i64 (orderT (sortT x) (sortT y))) rfl rfl) ?_))
 refine ⟨congrArg (Value.int .i64) ?_, hF.same⟩
 unfold compareV
 simp_all
end Go.Scarf
