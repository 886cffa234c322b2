/- A part of the proof. -/
import Derived.Test.YtonoededmmohhaaGreatDoorS1
set_option linter.all false
namespace Go.Scarf
open Go.RowKit Go.Proofs
def RSortC (x : Tree) : Prop := ∀ S w0 cs, Rep S w0 (treeD x) cs → allT nodeB x = true → sizeT x ≤ 1000000000 → NewC 72 #[.agg cs.toArray] (treeD (sortT x)) w0
theorem strs_take {ks : List Str} {j : Nat} (h : j < ks.length) : (ks.take (j + 1)).map (fun s => Value.string (bs s)) = (ks.take j).map (fun s => Value.string (bs s)) ++ [Value.string (bs ks[j])] := by
  rw [List.take_succ_eq_append_getElem h, List.map_append]; rfl
theorem lits_of {S : Nat → Prop} {wx : World} : ∀ {q : List Str}, (∀ s ∈ q, s.length ≤ 9223372036854775807) → RepL S wx (q.map strD) (q.map fun s => Value.string (bs s))
  | [], _ => RepL.nil_mk
  | s :: q, h => RepL.cons_mk (Rep.lit_mk (v := .string (bs s)) (h s (by simp))) (lits_of fun x hx => h x (by simp [hx]))
set_option maxHeartbeats 8000000 in
set_option maxRecDepth 10000 in
theorem rsort_step (k : Int) (t : Str) (ks : List Str) (xs : List Tree) (ih : ∀ x, x ∈ xs → RSortC x) : RSortC (.node k t ks xs) := by
 intro S w0 cs hR hnx hsz
 replace hR := hR.old
 have hkl_ := keys_lt _ hnx
 rw [keysT] at hkl_
 rw [sizeT] at hsz hkl_
 have hxn := sizeTs_len xs
 replace hnx := allT_node hnx
 obtain ⟨A, c, B, e, rfl, hk, ht, hK, hX⟩ := hR.tree_inv
 have hXl := hX.slice_len
 have hKn : k = 6 → ks.length = xs.length := fun e => (node6 (e ▸ hnx.1)).2
 obtain ⟨eK, hrK, hKl, hKc⟩ := hK.slice_open (size_strs ks)
 have hks2 : ∀ s ∈ sortS ks, s.length ≤ 9223372036854775807 := fun s hs => by obtain ⟨q, hq, rfl⟩ := List.mem_iff_getElem.1 (sortS_mem.1 hs); obtain ⟨_, _, _, h⟩ := hK.str_elem hq; exact h
 refine calls_start Tryz.func72 rfl Tryz.ntmps72 (Nat.le_of_ble_eq_true rfl) (args_1 _) ?_
 have hF := FR.start w0 []
 refine c_seq (c_region ?_)
 refine o_box (v := .agg #[.int .i64 (k), .string (bs (t)), .slice (A) (ks.length) (c), .slice (B) (xs.length) (e)]) (cs := #[.int .i64 (k), .string (bs (t)), .slice (A) (ks.length) (c), .slice (B) (xs.length) (e)]) hF rfl rfl ?_
 clear hF; rintro b1 w hb1 hF -
 refine o_alloc (cs := #[.int .i64 (0), .string (bs ([])), .slice (none) (0) (0), .slice (none) (0) (0)]) hF Tryz.zeroValue32 rfl ?_
 clear hF; rintro b2 w hb2 hF -
 refine o_nil (e_seq (c_seq (c_region (o_val (v := .pointer (some ⟨b1, 0, none⟩)) (x_fieldAddrO fa_32_0 rfl) (o_val (v := .int .i64 (k)) (x_load Tryz.isAgg3 rfl (hF.cell 1 rfl rfl)) (o_val (v := .pointer (some ⟨b1, 1, none⟩)) (x_fieldAddrO fa_32_1 rfl) (o_val (v := .string (bs (t))) (x_load Tryz.isAgg9 rfl (hF.cell 1 rfl rfl)) ?_)))))))
 refine o_val (w' := w) (v := .agg #[.int .i64 (k), .string (bs (t)), .slice (none) (0) (0), .slice (none) (0) (0)]) (by kernel_rfl) ?_
 refine o_lay (l := [.int .i64 (k), .string (bs (t)), .slice (none) (0) (0), .slice (none) (0) (0)]) hF Tryz.zeroValue32 Tryz.sizeOf32 rfl (v := .agg #[.int .i64 (k), .string (bs (t)), .slice (none) (0) (0), .slice (none) (0) (0)]) rfl rfl (by simp [one]) rfl ?_
 clear hF; rintro b3 w hb3 hF -
 refine o_nil (e_seq (c_seq (c_region ?_)))
 refine o_new (v := fun b => .slice (some ⟨b, 0, none⟩) 0 0) hF (x_buildSlice0 Tryz.underlying22 Tryz.sizeOf9) ?_
 clear hF; rintro b4 w hb4 hF -
 refine o_val (v := .pointer (some ⟨b1, 2, none⟩)) (x_fieldAddrO fa_32_2 rfl) (o_val (v := .slice (A) (ks.length) (c)) (x_load Tryz.isAgg22 rfl (hF.cell 3 rfl rfl)) ?_)
 have hS0 : SlB 9 1 (some ⟨b4, 0, none⟩) 0 0 [] [(b4, .cells #[] 9)] := ⟨by simp, .inr ⟨b4, #[], rfl, rfl, Nat.le_refl _, Nat.zero_le _, by simp, by simp⟩⟩
 replace hF := hF.toseg 0 rfl
 refine o_append [(b3, .cells #[.int .i64 (k), .string (bs (t)), .slice (none) (0) (0), .slice (none) (0) (0)] 32), (b2, .cells #[.int .i64 (0), .string (bs ([])), .slice (none) (0) (0), .slice (none) (0) (0)] 32), (b1, .cells #[.int .i64 (k), .string (bs (t)), .slice (A) (ks.length) (c), .slice (B) (xs.length) (e)] 32)] [] (news := eK) (len' := ks.length) (ys := eK) el_22 hF hS0 rfl rfl (by rw [hKl]) (fun hk => by obtain ⟨ad, hA, hc⟩ := hKc hk; exact ⟨ad, hA, cells_opt (hF.cells0 hc)⟩) (ones_eq hrK.one_) (by simp only [maxLen]; omega) (Nat.zero_add _) (rfl) (by omega) ?_
 clear hF; intro A0 c0 a_0 w hS0_a hF hE hnew
 clear hE hnew
 refine o_val (x_assign rfl) (o_nil (e_seq (c_seq (c_block ?_))))
 have hL : RX w0 [b3, b2, b1] w [strsD ks] [.slice (A0) (ks.length) (c0)] := strs_free hF hS0_a hrK rfl
 replace hF := hF.noseg
 refine c_loop (fun μ σ w => ∃ (j : Nat), ∃ (l : List Str), ∃ (nl : Nat), ∃ (AL : Option Addr), ∃ (cl : Nat), ∃ (AK : Option Addr), ∃ (cK : Nat), ∃ (AI : Option Addr), ∃ (cI : Nat), ∃ (sq : List (Nat × Obj)), ∃ (si : List (Nat × Obj)), ∃ (cs1 : List Value), μ = nl + 1 ∧ (j ≤ ks.length) ∧ (k ≠ 6 → j = 0) ∧ (nl = l.length) ∧ (l.Perm ((sortS ks).drop j)) ∧ (RX w0 ([b3, b2, b1] ++ (sq.map (·.1) ++ si.map (·.1))) w [strsD l] [.slice AL nl cl]) ∧ (SlB 9 1 AK j cK (((sortS ks).take j).map fun s => Value.string (bs s)) sq) ∧ (SlB 32 4 AI j cI cs1 si) ∧ (RX w0 ([b3, b2, b1] ++ (sq.map (·.1) ++ si.map (·.1))) w (treesD ((outs ks xs).take j)) cs1) ∧ AllEq σ [(1, .pointer (some ⟨b1, 0, none⟩)), (2, .pointer (some ⟨b2, 0, none⟩)), (3, .pointer (some ⟨b3, 0, none⟩)), (4, .slice (AL) (nl) (cl))] ∧ FR w0 [] ([(b3, .cells #[.int .i64 (k), .string (bs (t)), .slice (AK) (j) (cK), .slice (AI) (j) (cI)] 32), (b2, .cells #[.int .i64 (0), .string (bs ([])), .slice (none) (0) (0), .slice (none) (0) (0)] 32), (b1, .cells #[.int .i64 (k), .string (bs (t)), .slice (A) (ks.length) (c), .slice (B) (xs.length) (e)] 32)] ++ (sq ++ (si ++ []))) w) _ ⟨0, ks, ks.length, _, _, none, 0, none, 0, [], [], [], rfl, (Nat.zero_le _), (fun _ => rfl), (rfl), (by rw [List.drop_zero]; exact (sortS_perm ks).symm), (by simpa using hL), (SlB.nil _ _), (SlB.nil _ _), (RX.nil), ⟨rfl, rfl, rfl, rfl, trivial⟩, hF⟩ ?_
 clear hF; rintro μ σ w ⟨j, l, nl, AL, cl, AK, cK, AI, cI, sq, si, cs1, rfl, hj, hk6, hnl, hlp, hL, hSq, hSi, hDX, hs, hF⟩
 refine Cg.slots hs ?_
 clear hs; intro σ
 have hLc := hL.rep.slice_len.2
 refine c_seq (c_seq (c_region (o_val (v := .pointer (some ⟨b1, 0, none⟩)) (x_fieldAddrO fa_32_0 rfl) (o_val (v := .int .i64 (k)) (x_load Tryz.isAgg3 rfl (hF.cell 2 rfl rfl)) (o_val (v := .bool (decide ((k : Int) = (6 : Int)))) (x_eql rfl rfl) (o_val (x_move rfl) ?_))))))
 refine o_splitd (d := 20) (p := (k : Int) = (6 : Int)) rfl (fun hg1 => ?_) (fun hg1 => ?_)
 refine o_val (x_move rfl) (o_val (v := .int .i64 ((nl : Nat))) (x_len_slice Tryz.underlying22 rfl) (o_val (v := .bool (decide ((0 : Int) < ((nl : Nat) : Int)))) (x_gtr rfl rfl) (o_val (x_pickt rfl rfl) (o_nil (e_seq ?_)))))
 refine c_splitd (d := 24) (p := (0 : Int) < ((nl : Nat) : Int)) rfl (fun hc0 => ?_) (fun hc0 => ?_)
 refine c_ift rfl (c_skip (e_seq (c_block (c_seq (c_region (o_val (x_assign rfl) (o_nil (e_seq (c_seq (c_seq (c_region (o_val (x_assign rfl) (o_nil ?_)))))))))))))
 refine e_seq (c_block ?_)
 have h6 : k = 6 := by omega
 refine c_loop (fun μ σ w => ∃ (m : Nat), ∃ (i : Nat), μ = nl - i ∧ (m < l.length) ∧ (i ≤ nl ∧ 1 ≤ i) ∧ (RX w0 ([b3, b2, b1] ++ (sq.map (·.1) ++ si.map (·.1))) w [strsD l] [.slice AL nl cl]) ∧ (RX w0 ([b3, b2, b1] ++ (sq.map (·.1) ++ si.map (·.1))) w (treesD ((outs ks xs).take j)) cs1) ∧ (∀ (hm : m < l.length) q (h : q < l.length), q < i → strLt l[q] l[m] = false) ∧ AllEq σ [(1, .pointer (some ⟨b1, 0, none⟩)), (2, .pointer (some ⟨b2, 0, none⟩)), (3, .pointer (some ⟨b3, 0, none⟩)), (4, .slice (AL) (nl) (cl)), (5, .int .i64 ((m : Int))), (6, .int .i64 ((i : Int)))] ∧ FR w0 [] ([(b3, .cells #[.int .i64 (k), .string (bs (t)), .slice (AK) (j) (cK), .slice (AI) (j) (cI)] 32), (b2, .cells #[.int .i64 (0), .string (bs ([])), .slice (none) (0) (0), .slice (none) (0) (0)] 32), (b1, .cells #[.int .i64 (k), .string (bs (t)), .slice (A) (ks.length) (c), .slice (B) (xs.length) (e)] 32)] ++ (sq ++ (si ++ []))) w) _ ⟨0, 1, rfl, (by omega), (by omega), (hL), (hDX), (fun hm q h hq => by obtain rfl : q = 0 := (by omega); rw [strLt_is, decide_eq_false_iff_not]; exact List.lt_irrefl _), ⟨rfl, rfl, rfl, rfl, rfl, rfl, trivial⟩, hF⟩ ?_
 clear hF; rintro μ σ w ⟨m, i, rfl, hm, hi, hL, hDX, hmin, hs, hF⟩
 refine Cg.slots hs ?_
 clear hs; intro σ
 refine c_seq (c_seq (c_region (o_val (x_move rfl) (o_val (x_move rfl) (o_val (v := .int .i64 ((nl : Nat))) (x_len_slice Tryz.underlying22 rfl) (o_val (v := .bool (decide (((i : Int) : Int) < ((nl : Nat) : Int)))) (x_lss rfl rfl) (o_nil (e_seq ?_))))))))
 refine c_splitd (d := 28) (p := ((i : Int) : Int) < ((nl : Nat) : Int)) rfl (fun hc1 => ?_) (fun hc1 => ?_)
 refine c_ift rfl (c_skip (e_seq (c_seq (c_block (c_seq ?_)))))
 obtain ⟨ad, hAd⟩ := strs_addr hL (by omega)
 refine c_drawF [] (.free 0 (.free 1 (.free 2 (.free 3 (.free 4 (.free 5 (.free 6 (.free 7 (.free 8 .nil))))))))) (by kernel_rfl) hF (by kernel_rfl) (by kernel_rfl) ?_
 clear hF; intro w hF hE
 replace hL := hL.ext hE
 replace hDX := hDX.ext hE
 clear hE
 refine ⟨fun wq => FR w0 [] [(b3, .cells #[.int .i64 (k), .string (bs (t)), .slice (AK) (j) (cK), .slice (AI) (j) (cI)] 32), (b2, .cells #[.int .i64 (0), .string (bs ([])), .slice (none) (0) (0), .slice (none) (0) (0)] 32), (b1, .cells #[.int .i64 (k), .string (bs (t)), .slice (A) (ks.length) (c), .slice (B) (xs.length) (e)] 32)] wq ∧ ∀ q (h : q < l.length), wq.cell? (ad.add (q * 1)) = some (.string (bs l[q])), ⟨hF.sub (.cons_cons _ (.cons_cons _ (.cons_cons _ (List.nil_sublist _)))), strs_cells hL hAd⟩, ?_⟩
 refine f_free rfl (v := .slice (AL) (nl) (cl)) (fun w hC => x_move rfl) (f_free rfl (v := .int .i64 ((i : Int))) (fun w hC => x_move rfl) (f_free rfl (v := .pointer (some (ad.add (i * 1)))) (fun w hC => x_indexAddrA (i := (i : Int)) sl_22 rfl hAd rfl (by omega) (by omega)) (f_free rfl (v := .string (bs ((l[i]'(by omega))))) (fun w hC => x_load Tryz.isAgg9 rfl (hC.2 i (by omega))) (f_free rfl (v := .slice (AL) (nl) (cl)) (fun w hC => x_move rfl) (f_free rfl (v := .int .i64 ((m : Int))) (fun w hC => x_move rfl) (f_free rfl (v := .pointer (some (ad.add (m * 1)))) (fun w hC => x_indexAddrA (i := (m : Int)) sl_22 rfl hAd rfl (by omega) (by omega)) (f_free rfl (v := .string (bs ((l[m]'(by omega))))) (fun w hC => x_load Tryz.isAgg9 rfl (hC.2 m (by omega))) (f_free rfl (v := .bool (strLt ((l[i]'(by omega))) ((l[m]'(by omega))))) (fun w hC => x_lsss rfl rfl) (d_nil (e_seq ?_))))))))))
 refine c_split (d := 39) (b := strLt ((l[i]'(by omega))) ((l[m]'(by omega)))) rfl (fun hc2 => ?_) (fun hc2 => ?_)
 refine c_ift rfl (c_region (o_val (x_move rfl) (o_val (x_assign rfl) (o_nil (e_block (e_seq (c_region (o_val (x_move rfl) (o_val (v := .int .i64 (((i + 1 : Nat) : Int))) (x_add rfl rfl (wrap_to (by omega) (by omega) (by omega))) (o_val (x_assign rfl) (o_nil ?_)))))))))))
 refine e_inv ⟨_, ?_, i, i + 1, rfl, (by omega), (by omega), (hL), (hDX), (fun _ => min_new hm (by omega) (hmin hm) (by assumption)), ⟨rfl, rfl, rfl, rfl, rfl, rfl, trivial⟩, hF⟩
 omega
 refine c_iff rfl (c_skip (e_block (e_seq (c_region (o_val (x_move rfl) (o_val (v := .int .i64 (((i + 1 : Nat) : Int))) (x_add rfl rfl (wrap_to (by omega) (by omega) (by omega))) (o_val (x_assign rfl) (o_nil ?_))))))))
 refine e_inv ⟨_, ?_, m, i + 1, rfl, (by omega), (by omega), (hL), (hDX), (fun _ => min_next hm (by omega) (hmin hm) (by assumption)), ⟨rfl, rfl, rfl, rfl, rfl, rfl, trivial⟩, hF⟩
 omega
 refine c_iff rfl ?_
 refine c_exit (e_exit rfl ?_)
 refine e_seq (c_seq ?_)
 obtain ⟨hjs, hmj⟩ := least_is hlp (m := m) hm (fun q h => hmin hm q h (by omega))
 obtain ⟨ad, hAd⟩ := strs_addr hL (by omega)
 refine c_drawF [9] (.free 0 (.free 1 (.free 2 (.free 3 (.free 4 (.free 5 (.act 6 (.act 7 (.free 8 (.act 9 .nil)))))))))) (by kernel_rfl) hF (by kernel_rfl) (by kernel_rfl) ?_
 clear hF; intro w hF hE
 replace hL := hL.ext hE
 replace hDX := hDX.ext hE
 clear hE
 refine ⟨fun wq => FR w0 [] [(b3, .cells #[.int .i64 (k), .string (bs (t)), .slice (AK) (j) (cK), .slice (AI) (j) (cI)] 32), (b2, .cells #[.int .i64 (0), .string (bs ([])), .slice (none) (0) (0), .slice (none) (0) (0)] 32), (b1, .cells #[.int .i64 (k), .string (bs (t)), .slice (A) (ks.length) (c), .slice (B) (xs.length) (e)] 32)] wq ∧ ∀ q (h : q < l.length), wq.cell? (ad.add (q * 1)) = some (.string (bs l[q])), ⟨hF.sub (.cons_cons _ (.cons_cons _ (.cons_cons _ (List.nil_sublist _)))), strs_cells hL hAd⟩, ?_⟩
 refine f_free rfl (v := .pointer (some ⟨b3, 2, none⟩)) (fun w hC => x_fieldAddrO fa_32_2 rfl) (f_free rfl (v := .slice (AK) (j) (cK)) (fun w hC => x_load Tryz.isAgg22 rfl (hC.1.cell 0 rfl rfl)) (f_free rfl (v := .slice (AL) (nl) (cl)) (fun w hC => x_move rfl) (f_free rfl (v := .int .i64 ((m : Int))) (fun w hC => x_move rfl) (f_free rfl (v := .pointer (some (ad.add (m * 1)))) (fun w hC => x_indexAddrA (i := (m : Int)) sl_22 rfl hAd rfl (by omega) (by omega)) (f_free rfl (v := .string (bs ((l[m]'(by omega))))) (fun w hC => x_load Tryz.isAgg9 rfl (hC.2 m (by omega))) ?_)))))
 refine f_new rfl (v := fun b => .slice (some ⟨b, 0, none⟩) 1 1) hF (x_buildSlice (cs := #[.string (bs ((l[m]'(by omega))))]) Tryz.underlying22 Tryz.sizeOf9 Tryz.zeroValue9 (by decide) (by decide) (by kernel_rfl)) ?_
 clear hF; intro b5 w hb5 hF hE
 replace hL := hL.alloc hE hb5
 replace hDX := hDX.alloc hE hb5
 clear hE
 refine ⟨⟨hF.sub (.cons _ (.cons_cons _ (.cons_cons _ (.cons_cons _ (List.nil_sublist _))))), strs_cells hL hAd⟩, ?_⟩
 refine f_append [(b5, .cells #[.string (bs ((l[m]'(by omega))))] 9), (b3, .cells #[.int .i64 (k), .string (bs (t)), .slice (AK) (j) (cK), .slice (AI) (j) (cI)] 32), (b2, .cells #[.int .i64 (0), .string (bs ([])), .slice (none) (0) (0), .slice (none) (0) (0)] 32), (b1, .cells #[.int .i64 (k), .string (bs (t)), .slice (A) (ks.length) (c), .slice (B) (xs.length) (e)] 32)] (si ++ []) (news := [.string (bs ((l[m]'(by omega))))]) (len' := j + 1) (ys := ((sortS ks).take (j + 1)).map (fun s => Value.string (bs s))) rfl el_22 hF hSq rfl rfl (rfl) (fun _ => ⟨_, rfl, cells_opt (hF.cellsAll 0 rfl)⟩) (by simp [Value.oneCell']) (by simp only [maxLen]; omega) (rfl) (by rw [strs_take hjs, ← hmj]) (by omega) ?_
 clear hF; intro A2 c2 q_2 w hS2_q hF hE hnew
 replace hL := hL.step (ids' := [b5, b3, b2, b1] ++ (q_2.map (·.1) ++ si.map (·.1))) hE (by grind) (by grind)
 replace hDX := hDX.step (ids' := [b5, b3, b2, b1] ++ (q_2.map (·.1) ++ si.map (·.1))) hE (by grind) (by grind)
 clear hE hnew
 refine ⟨⟨hF.sub (.cons _ (.cons_cons _ (.cons_cons _ (.cons_cons _ (List.nil_sublist _))))), strs_cells hL hAd⟩, ?_⟩
 refine f_free rfl (v := .pointer (some ⟨b3, 2, none⟩)) (fun w hC => x_fieldAddrO fa_32_2 rfl) ?_
 refine f_storez rfl 1 (l := [.slice (A2) (j + 1) (c2)]) (cs' := #[.int .i64 (k), .string (bs (t)), .slice (A2) (j + 1) (c2), .slice (AI) (j) (cI)]) hF Tryz.sizeOf22 rfl (v := .slice (A2) (j + 1) (c2)) rfl rfl (by simp [one]) rfl (Nat.le_of_ble_eq_true rfl) rfl ?_
 clear hF; intro w hF hE
 replace hL := hL.store hE (by grind)
 replace hDX := hDX.store hE (by grind)
 clear hE
 replace hF : FR w0 [] ([(b5, .cells #[.string (bs ((l[m]'(by omega))))] 9), (b3, .cells #[.int .i64 (k), .string (bs (t)), .slice (A2) (j + 1) (c2), .slice (AI) (j) (cI)] 32), (b2, .cells #[.int .i64 (0), .string (bs ([])), .slice (none) (0) (0), .slice (none) (0) (0)] 32), (b1, .cells #[.int .i64 (k), .string (bs (t)), .slice (A) (ks.length) (c), .slice (B) (xs.length) (e)] 32)] ++ (q_2 ++ (si ++ []))) w := hF
 refine d_nil (e_seq (c_seq ?_))
 refine c_drawF [16] (.free 0 (.free 1 (.free 2 (.free 3 (.free 4 (.free 5 (.free 6 (.free 7 (.free 8 (.act 9 (.free 10 (.free 11 (.act 12 (.act 13 (.act 14 (.free 15 (.act 16 .nil))))))))))))))))) (by kernel_rfl) hF (by kernel_rfl) (by kernel_rfl) ?_
 clear hF; intro w hF hE
 replace hL := hL.ext hE
 replace hDX := hDX.ext hE
 clear hE
 refine ⟨fun wq => FR w0 [] [(b5, .cells #[.string (bs ((l[m]'(by omega))))] 9), (b3, .cells #[.int .i64 (k), .string (bs (t)), .slice (A2) (j + 1) (c2), .slice (AI) (j) (cI)] 32), (b2, .cells #[.int .i64 (0), .string (bs ([])), .slice (none) (0) (0), .slice (none) (0) (0)] 32), (b1, .cells #[.int .i64 (k), .string (bs (t)), .slice (A) (ks.length) (c), .slice (B) (xs.length) (e)] 32)] wq ∧ ∀ q (h : q < l.length), wq.cell? (ad.add (q * 1)) = some (.string (bs l[q])), ⟨hF.sub (.cons_cons _ (.cons_cons _ (.cons_cons _ (.cons_cons _ (List.nil_sublist _))))), strs_cells hL hAd⟩, ?_⟩
 refine f_free rfl (v := .pointer (some ⟨b3, 3, none⟩)) (fun w hC => x_fieldAddrO fa_32_3 rfl) (f_free rfl (v := .slice (AI) (j) (cI)) (fun w hC => x_load Tryz.isAgg30 rfl (hC.1.cell 1 rfl rfl)) (f_free rfl (v := .pointer (some ⟨b1, 3, none⟩)) (fun w hC => x_fieldAddrO fa_32_3 rfl) (f_free rfl (v := .slice (B) (xs.length) (e)) (fun w hC => x_load Tryz.isAgg30 rfl (hC.1.cell 3 rfl rfl)) (f_free rfl (v := .agg #[.int .i64 (k), .string (bs (t)), .slice (A) (ks.length) (c), .slice (B) (xs.length) (e)]) (fun w hC => x_loadS (l := [.int .i64 (k), .string (bs (t)), .slice (A) (ks.length) (c), .slice (B) (xs.length) (e)]) Tryz.isAgg32 Tryz.sizeOf32 rfl rfl (hC.1.cellsAll 3 rfl)) (f_free rfl (v := .slice (AL) (nl) (cl)) (fun w hC => x_move rfl) (f_free rfl (v := .int .i64 ((m : Int))) (fun w hC => x_move rfl) (f_free rfl (v := .pointer (some (ad.add (m * 1)))) (fun w hC => x_indexAddrA (i := (m : Int)) sl_22 rfl hAd rfl (by omega) (by omega)) (f_free rfl (v := .string (bs ((l[m]'(by omega))))) (fun w hC => x_load Tryz.isAgg9 rfl (hC.2 m (by omega))) ?_))))))))
 refine f_call rfl (at_c k t ks xs (l[m]'(by omega)) _ _ _ (hF.rep hR)) (x_call2 en_50 rfl rfl rfl) ?_
 rintro _ w ⟨rfl, hE⟩
 obtain ⟨q, hq⟩ : ∃ q : Nat, atZ ks (l[m]'(by omega)) = (q : Int) := by have hmem : l[m]'(by omega) ∈ ks := (by rw [hmj]; exact sortS_mem.1 (List.getElem_mem hjs)); refine ⟨ks.idxOf (l[m]'(by omega)), ?_⟩; rw [atZ, if_pos hmem]
 rw [hq]
 obtain ⟨hqx, hlook⟩ := at_look (xs := xs) (hKn h6) hq
 rw [hmj] at hlook
 replace hF := hF.ext hE
 replace hL := hL.ext hE
 replace hDX := hDX.ext hE
 clear hE
 refine ⟨⟨hF.sub (.cons_cons _ (.cons_cons _ (.cons_cons _ (.cons_cons _ (List.nil_sublist _))))), strs_cells hL hAd⟩, ?_⟩
 obtain ⟨ad3, cs3, hA3, hl3, hk3, hx3⟩ := hX.tree_elem (i := q) (hqx)
 have ho3 := hx3.one_
 refine f_free rfl (v := .pointer (some (ad3.add (q * 4)))) (fun w hC => x_indexAddrA (i := (q : Int)) sl_30 rfl hA3 rfl (by omega) (by omega)) (f_free rfl (v := .agg (List.toArray cs3)) (fun w hC => x_loadS (l := cs3) Tryz.isAgg32 Tryz.sizeOf32 rfl hl3 (hC.1.cells0 hk3)) ?_)
 refine f_call rfl (ih (xs[q]'hqx) (List.getElem_mem hqx) _ _ cs3 (hF.rep hx3) (hnx.2 _ (List.getElem_mem hqx)) (by have := sizeTs_mem (List.getElem_mem hqx); omega)) (x_call1 en_72 rfl rfl) ?_
 rintro _ w ⟨ct, rfl, hRt, hE⟩
 have hlt : ct.length = 4 := hRt.length.trans (size_treeD _)
 have hot := hRt.one_
 have hYX := RX.made (ids := [b5, b3, b2, b1] ++ (q_2.map (·.1) ++ si.map (·.1))) hF.same.size (fun x hx => hF.lt_ids (by grind)) hRt
 replace hDX := (hDX.ext hE).append hYX
 replace hL := hL.ext hE
 replace hF := hF.ext hE
 clear hE hYX
 refine ⟨⟨hF.sub (.cons_cons _ (.cons_cons _ (.cons_cons _ (.cons_cons _ (List.nil_sublist _))))), strs_cells hL hAd⟩, ?_⟩
 refine f_new rfl (v := fun b => .slice (some ⟨b, 0, none⟩) 1 1) hF (x_buildSlice1 (l := ct) Tryz.underlying30 Tryz.sizeOf32 Tryz.zeroValue32 (by decide) (by decide) rfl hlt) ?_
 clear hF; intro b6 w hb6 hF hE
 replace hL := hL.alloc hE hb6
 replace hDX := hDX.alloc hE hb6
 clear hE
 refine ⟨⟨hF.sub (.cons _ (.cons_cons _ (.cons_cons _ (.cons_cons _ (.cons_cons _ (List.nil_sublist _)))))), strs_cells hL hAd⟩, ?_⟩
 refine f_append ([(b6, .cells (List.toArray ct) 32), (b5, .cells #[.string (bs ((l[m]'(by omega))))] 9), (b3, .cells #[.int .i64 (k), .string (bs (t)), .slice (A2) (j + 1) (c2), .slice (AI) (j) (cI)] 32), (b2, .cells #[.int .i64 (0), .string (bs ([])), .slice (none) (0) (0), .slice (none) (0) (0)] 32), (b1, .cells #[.int .i64 (k), .string (bs (t)), .slice (A) (ks.length) (c), .slice (B) (xs.length) (e)] 32)] ++ q_2) [] (news := ct) (len' := j + 1) (ys := cs1 ++ ct) rfl el_30 hF hSi rfl rfl (by rw [hlt]) (fun _ => ⟨_, rfl, cells_opt (hF.cellsAll 0 rfl)⟩) (ones_eq hot) (by simp only [maxLen]; omega) (rfl) (rfl) (by omega) ?_
 clear hF; intro A4 c4 i_4 w hS4_i hF hE hnew
 replace hL := hL.step (ids' := [b6, b5, b3, b2, b1] ++ (q_2.map (·.1) ++ i_4.map (·.1))) hE (by grind) (by grind)
 replace hDX := hDX.step (ids' := [b6, b5, b3, b2, b1] ++ (q_2.map (·.1) ++ i_4.map (·.1))) hE (by grind) (by grind)
 clear hE hnew
 refine ⟨⟨hF.sub (.cons _ (.cons_cons _ (.cons_cons _ (.cons_cons _ (.cons_cons _ (List.nil_sublist _)))))), strs_cells hL hAd⟩, ?_⟩
 refine f_free rfl (v := .pointer (some ⟨b3, 3, none⟩)) (fun w hC => x_fieldAddrO fa_32_3 rfl) ?_
 refine f_storez rfl 2 (l := [.slice (A4) (j + 1) (c4)]) (cs' := #[.int .i64 (k), .string (bs (t)), .slice (A2) (j + 1) (c2), .slice (A4) (j + 1) (c4)]) hF Tryz.sizeOf30 rfl (v := .slice (A4) (j + 1) (c4)) rfl rfl (by simp [one]) rfl (Nat.le_of_ble_eq_true rfl) rfl ?_
 clear hF; intro w hF hE
 replace hL := hL.store hE (by grind)
 replace hDX := hDX.store hE (by grind)
 clear hE
 replace hF : FR w0 [] ([(b6, .cells (List.toArray ct) 32), (b5, .cells #[.string (bs ((l[m]'(by omega))))] 9), (b3, .cells #[.int .i64 (k), .string (bs (t)), .slice (A2) (j + 1) (c2), .slice (A4) (j + 1) (c4)] 32), (b2, .cells #[.int .i64 (0), .string (bs ([])), .slice (none) (0) (0), .slice (none) (0) (0)] 32), (b1, .cells #[.int .i64 (k), .string (bs (t)), .slice (A) (ks.length) (c), .slice (B) (xs.length) (e)] 32)] ++ (q_2 ++ (i_4 ++ []))) w := hF
 refine d_nil (e_seq ?_)
 refine c_drawF [] (.free 0 (.free 1 (.free 2 (.free 3 (.free 4 (.free 5 (.free 6 (.free 7 (.act 8 (.free 9 .nil)))))))))) (by kernel_rfl) hF (by kernel_rfl) (by kernel_rfl) ?_
 clear hF; intro w hF hE
 replace hL := hL.ext hE
 replace hDX := hDX.ext hE
 clear hE
 refine ⟨fun wq => FR w0 [] [(b6, .cells (List.toArray ct) 32), (b5, .cells #[.string (bs ((l[m]'(by omega))))] 9), (b3, .cells #[.int .i64 (k), .string (bs (t)), .slice (A2) (j + 1) (c2), .slice (A4) (j + 1) (c4)] 32), (b2, .cells #[.int .i64 (0), .string (bs ([])), .slice (none) (0) (0), .slice (none) (0) (0)] 32), (b1, .cells #[.int .i64 (k), .string (bs (t)), .slice (A) (ks.length) (c), .slice (B) (xs.length) (e)] 32)] wq, hF.sub (.cons_cons _ (.cons_cons _ (.cons_cons _ (.cons_cons _ (.cons_cons _ (List.nil_sublist _)))))), ?_⟩
 refine f_free rfl (v := .slice (AL) (nl) (cl)) (fun w hC => x_move rfl) (f_free rfl (v := .int .i64 ((m : Int))) (fun w hC => x_move rfl) (f_free rfl (v := .int .i64 ((m : Int))) (fun w hC => x_move rfl) ?_))
 refine f_free rfl (v := .slice AL m m) (fun w hC => x_sliceHM m sl_22 rfl rfl rfl (by have := hLc; omega)) ?_
 refine f_free rfl (v := .slice (AL) (nl) (cl)) (fun w hC => x_move rfl) (f_free rfl (v := .int .i64 ((m : Int))) (fun w hC => x_move rfl) (f_free rfl (v := .int .i64 (((m + 1 : Nat) : Int))) (fun w hC => x_add rfl rfl (wrap_to (by omega) (by omega) (by omega))) (f_free rfl (v := .slice (if cl = m + 1 then AL else AL.map (·.add ((m + 1) * 1))) (nl - (m + 1)) (cl - (m + 1))) (fun w hC => x_sliceLo (m + 1) sl_22 rfl rfl (by omega)) ?_)))
 have hnb := hlp.length_eq
 rw [List.length_drop, sortS_len] at hnb
 have hkx := hKn h6
 obtain ⟨AL2, cl2, w2, hr2, hL2, hE⟩ := append_left (w := w) (ty := 22) el_22 hL (show m < nl by omega) (fun b hb => hF.lt_ids (by grind)) hF.same.size (by omega) (by omega)
 replace hF := hF.ext hE
 replace hDX := hDX.ext hE
 refine f_act rfl (x_append rfl rfl hr2) (hF.sub (.cons_cons _ (.cons_cons _ (.cons_cons _ (.cons_cons _ (.cons_cons _ (List.nil_sublist _))))))) ?_
 clear hE hr2
 refine f_free rfl (v := .slice (AL2) (nl - 1) (cl2)) (fun w hC => x_assign rfl) (d_nil (e_block ?_))
 refine e_inv ⟨_, ?_, j + 1, l.eraseIdx m, nl - 1, AL2, cl2, A2, c2, A4, c4, q_2, i_4, cs1 ++ ct, rfl, (by rw [sortS_len] at hjs; omega), (fun h => absurd h6 h), (by rw [List.length_eraseIdx, if_pos (by omega), ← hnl]), (erase_perm hlp (by omega) hjs hmj), (hL2.sub (by grind)), (hS2_q), (hS4_i), (by rw [outs_take hjs hlook]; exact hDX.sub (by grind)), ⟨rfl, rfl, rfl, rfl, trivial⟩, hF.drop 2⟩
 omega
 refine c_iff rfl ?_
 refine c_exit (e_exit rfl ?_)
 refine e_seq (c_seq (c_seq (c_region (o_val (x_assign rfl) (o_nil (e_seq (c_block ?_)))))))
 refine c_loop (fun μ σ w => μ = 0 ∧ (RX w0 ([b3, b2, b1] ++ (sq.map (·.1) ++ si.map (·.1))) w [strsD l] [.slice AL nl cl]) ∧ (RX w0 ([b3, b2, b1] ++ (sq.map (·.1) ++ si.map (·.1))) w (treesD ((outs ks xs).take j)) cs1) ∧ AllEq σ [(1, .pointer (some ⟨b1, 0, none⟩)), (2, .pointer (some ⟨b2, 0, none⟩)), (3, .pointer (some ⟨b3, 0, none⟩)), (7, .int .i64 ((0 : Int)))] ∧ FR w0 [] ([(b3, .cells #[.int .i64 (k), .string (bs (t)), .slice (AK) (j) (cK), .slice (AI) (j) (cI)] 32), (b2, .cells #[.int .i64 (0), .string (bs ([])), .slice (none) (0) (0), .slice (none) (0) (0)] 32), (b1, .cells #[.int .i64 (k), .string (bs (t)), .slice (A) (ks.length) (c), .slice (B) (xs.length) (e)] 32)] ++ (sq ++ (si ++ []))) w) _ ⟨rfl, (hL), (hDX), ⟨rfl, rfl, rfl, rfl, trivial⟩, hF⟩ ?_
 clear hF; rintro μ σ w ⟨rfl, hL, hDX, hs, hF⟩
 refine Cg.slots hs ?_
 clear hs; intro σ
 refine c_seq (c_seq (c_region (o_val (x_move rfl) (o_val (v := .pointer (some ⟨b1, 3, none⟩)) (x_fieldAddrO fa_32_3 rfl) (o_val (v := .slice (B) (xs.length) (e)) (x_load Tryz.isAgg30 rfl (hF.cell 2 rfl rfl)) (o_val (v := .int .i64 ((xs.length : Nat))) (x_len_slice Tryz.underlying30 rfl) (o_val (v := .bool (decide (((0 : Int) : Int) < ((xs.length : Nat) : Int)))) (x_lss rfl rfl) (o_val (x_move rfl) ?_))))))))
 refine o_splitd (d := 80) (p := ((0 : Int) : Int) < ((xs.length : Nat) : Int)) rfl (fun hg5 => ?_) (fun hg5 => ?_)
 refine o_val (v := .pointer (some ⟨b1, 0, none⟩)) (x_fieldAddrO fa_32_0 rfl) (o_val (v := .int .i64 (k)) (x_load Tryz.isAgg3 rfl (hF.cell 2 rfl rfl)) (o_val (v := .bool false) (run_false (x_neq rfl rfl) (by omega)) (o_val (x_pickt rfl rfl) (o_nil (e_seq (c_iff rfl ?_))))))
 refine c_exit (e_exit rfl ?_)
 refine e_seq (c_seq (c_region (o_val (v := .agg #[.int .i64 (k), .string (bs (t)), .slice (AK) (j) (cK), .slice (AI) (j) (cI)]) (x_loadS (l := [.int .i64 (k), .string (bs (t)), .slice (AK) (j) (cK), .slice (AI) (j) (cI)]) Tryz.isAgg32 Tryz.sizeOf32 rfl rfl (hF.cellsAll 0 rfl)) ?_)))
 refine o_store 1 (l := [.int .i64 (k), .string (bs (t)), .slice (AK) (j) (cK), .slice (AI) (j) (cI)]) (cs' := #[.int .i64 (k), .string (bs (t)), .slice (AK) (j) (cK), .slice (AI) (j) (cI)]) hF Tryz.sizeOf32 rfl (v := .agg #[.int .i64 (k), .string (bs (t)), .slice (AK) (j) (cK), .slice (AI) (j) (cI)]) rfl rfl (by simp [one]) rfl (Nat.le_of_ble_eq_true rfl) rfl ?_
 clear hF; intro w hF hE
 replace hL := hL.store hE (by grind)
 replace hDX := hDX.store hE (by grind)
 clear hE
 replace hF : FR w0 [] ([(b3, .cells #[.int .i64 (k), .string (bs (t)), .slice (AK) (j) (cK), .slice (AI) (j) (cI)] 32), (b2, .cells #[.int .i64 (k), .string (bs (t)), .slice (AK) (j) (cK), .slice (AI) (j) (cI)] 32), (b1, .cells #[.int .i64 (k), .string (bs (t)), .slice (A) (ks.length) (c), .slice (B) (xs.length) (e)] 32)] ++ (sq ++ (si ++ []))) w := hF
 refine o_nil (e_seq ?_)
 refine c_ret (e_ret (post_ret (res_c rfl (l := [.int .i64 (k), .string (bs (t)), .slice (AK) (j) (cK), .slice (AI) (j) (cI)]) rfl Tryz.isAgg32 Tryz.sizeOf32 rfl (hF.cellsAll 1 rfl)) ?_))
 refine ⟨_, rfl, ?_, hF.same⟩
 have h1 := hlp.length_eq
 rw [List.length_drop, sortS_len] at h1
 have ej : j = ks.length := by omega
 subst ej
 rw [List.take_of_length_le (by rw [outs_len]; exact Nat.le_refl _)] at hDX
 rw [List.take_of_length_le (by rw [sortS_len]; exact Nat.le_refl _)] at hSq
 rw [sortT, if_pos (show k = 6 by omega)]
 have hKX : RX w0 [] w ((sortS ks).map strD) _ := lits_of hks2
 exact Rep.tree_mk hk ht (hSq.rep (pre := [_, _, _]) (post := si ++ []) hF hKX (by rw [List.length_map, sortS_len])) (hSi.rep (pre := [_, _, _] ++ sq) (post := []) (by simpa using hF) hDX (by rw [treesD_length]; exact outs_len ..))
 refine o_off (o_off (o_off (o_val (x_pickf rfl rfl) (o_nil (e_seq (c_iff rfl ?_))))))
 refine c_exit (e_exit rfl ?_)
 refine e_seq (c_seq (c_region (o_val (v := .agg #[.int .i64 (k), .string (bs (t)), .slice (AK) (j) (cK), .slice (AI) (j) (cI)]) (x_loadS (l := [.int .i64 (k), .string (bs (t)), .slice (AK) (j) (cK), .slice (AI) (j) (cI)]) Tryz.isAgg32 Tryz.sizeOf32 rfl rfl (hF.cellsAll 0 rfl)) ?_)))
 refine o_store 1 (l := [.int .i64 (k), .string (bs (t)), .slice (AK) (j) (cK), .slice (AI) (j) (cI)]) (cs' := #[.int .i64 (k), .string (bs (t)), .slice (AK) (j) (cK), .slice (AI) (j) (cI)]) hF Tryz.sizeOf32 rfl (v := .agg #[.int .i64 (k), .string (bs (t)), .slice (AK) (j) (cK), .slice (AI) (j) (cI)]) rfl rfl (by simp [one]) rfl (Nat.le_of_ble_eq_true rfl) rfl ?_
 clear hF; intro w hF hE
 replace hL := hL.store hE (by grind)
 replace hDX := hDX.store hE (by grind)
 clear hE
 replace hF : FR w0 [] ([(b3, .cells #[.int .i64 (k), .string (bs (t)), .slice (AK) (j) (cK), .slice (AI) (j) (cI)] 32), (b2, .cells #[.int .i64 (k), .string (bs (t)), .slice (AK) (j) (cK), .slice (AI) (j) (cI)] 32), (b1, .cells #[.int .i64 (k), .string (bs (t)), .slice (A) (ks.length) (c), .slice (B) (xs.length) (e)] 32)] ++ (sq ++ (si ++ []))) w := hF
 refine o_nil (e_seq ?_)
 refine c_ret (e_ret (post_ret (res_c rfl (l := [.int .i64 (k), .string (bs (t)), .slice (AK) (j) (cK), .slice (AI) (j) (cI)]) rfl Tryz.isAgg32 Tryz.sizeOf32 rfl (hF.cellsAll 1 rfl)) ?_))
 refine ⟨_, rfl, ?_, hF.same⟩
 have h1 := hlp.length_eq
 rw [List.length_drop, sortS_len] at h1
 have ej : j = ks.length := by omega
 subst ej
 rw [List.take_of_length_le (by rw [outs_len]; exact Nat.le_refl _)] at hDX
 rw [List.take_of_length_le (by rw [sortS_len]; exact Nat.le_refl _)] at hSq
 rw [sortT, if_pos (show k = 6 by omega)]
 have hKX : RX w0 [] w ((sortS ks).map strD) _ := lits_of hks2
 exact Rep.tree_mk hk ht (hSq.rep (pre := [_, _, _]) (post := si ++ []) hF hKX (by rw [List.length_map, sortS_len])) (hSi.rep (pre := [_, _, _] ++ sq) (post := []) (by simpa using hF) hDX (by rw [treesD_length]; exact outs_len ..))
 refine o_off (o_off (o_off (o_val (x_pickf rfl rfl) (o_nil (e_seq (c_iff rfl ?_))))))
 refine c_exit (e_exit rfl ?_)
 refine e_seq (c_seq (c_seq (c_region (o_val (x_assign rfl) (o_nil (e_seq (c_block ?_)))))))
 obtain rfl : j = 0 := hk6 (by assumption)
 simp only [List.take_zero, treesD] at hDX
 obtain rfl := RepL.nil_inv hDX
 refine c_loop (fun μ σ w => ∃ (i2 : Nat), ∃ (AJ : Option Addr), ∃ (cJ : Nat), ∃ (sj : List (Nat × Obj)), ∃ (cs2 : List Value), μ = xs.length - i2 ∧ (i2 ≤ xs.length) ∧ (SlB 32 4 AJ i2 cJ cs2 sj) ∧ (RX w0 ([b3, b2, b1] ++ (sq.map (·.1) ++ sj.map (·.1))) w (treesD (sortTs (xs.take i2))) cs2) ∧ AllEq σ [(1, .pointer (some ⟨b1, 0, none⟩)), (2, .pointer (some ⟨b2, 0, none⟩)), (3, .pointer (some ⟨b3, 0, none⟩)), (7, .int .i64 ((i2 : Int)))] ∧ FR w0 [] ([(b3, .cells #[.int .i64 (k), .string (bs (t)), .slice (AK) (0) (cK), .slice (AJ) (i2) (cJ)] 32), (b2, .cells #[.int .i64 (0), .string (bs ([])), .slice (none) (0) (0), .slice (none) (0) (0)] 32), (b1, .cells #[.int .i64 (k), .string (bs (t)), .slice (A) (ks.length) (c), .slice (B) (xs.length) (e)] 32)] ++ (sq ++ (sj ++ []))) w) _ ⟨0, AI, cI, si, [], rfl, (Nat.zero_le _), (hSi), (RX.nil), ⟨rfl, rfl, rfl, rfl, trivial⟩, hF⟩ ?_
 clear hF; rintro μ σ w ⟨i2, AJ, cJ, sj, cs2, rfl, hi2, hSj, hDX, hs, hF⟩
 refine Cg.slots hs ?_
 clear hs; intro σ
 refine c_seq (c_seq (c_region (o_val (x_move rfl) (o_val (v := .pointer (some ⟨b1, 3, none⟩)) (x_fieldAddrO fa_32_3 rfl) (o_val (v := .slice (B) (xs.length) (e)) (x_load Tryz.isAgg30 rfl (hF.cell 2 rfl rfl)) (o_val (v := .int .i64 ((xs.length : Nat))) (x_len_slice Tryz.underlying30 rfl) (o_val (v := .bool (decide (((i2 : Int) : Int) < ((xs.length : Nat) : Int)))) (x_lss rfl rfl) (o_val (x_move rfl) ?_))))))))
 refine o_splitd (d := 80) (p := ((i2 : Int) : Int) < ((xs.length : Nat) : Int)) rfl (fun hg6 => ?_) (fun hg6 => ?_)
 refine o_val (v := .pointer (some ⟨b1, 0, none⟩)) (x_fieldAddrO fa_32_0 rfl) (o_val (v := .int .i64 (k)) (x_load Tryz.isAgg3 rfl (hF.cell 2 rfl rfl)) (o_val (v := .bool (decide ((k : Int) ≠ (6 : Int)))) (x_neq rfl rfl) (o_val (x_pickt rfl rfl) (o_nil (e_seq ?_)))))
 refine c_splitd (d := 84) (p := (k : Int) ≠ (6 : Int)) rfl (fun hc3 => ?_) (fun hc3 => ?_)
 refine c_ift rfl (c_skip (e_seq (c_seq (c_block ?_))))
 refine c_drawF [11] (.free 0 (.free 1 (.free 2 (.free 3 (.free 4 (.free 5 (.free 6 (.act 7 (.act 8 (.act 9 (.free 10 (.act 11 .nil)))))))))))) (by kernel_rfl) hF (by kernel_rfl) (by kernel_rfl) ?_
 clear hF; intro w hF hE
 replace hDX := hDX.ext hE
 clear hE
 refine ⟨fun wq => FR w0 [] [(b3, .cells #[.int .i64 (k), .string (bs (t)), .slice (AK) (0) (cK), .slice (AJ) (i2) (cJ)] 32), (b2, .cells #[.int .i64 (0), .string (bs ([])), .slice (none) (0) (0), .slice (none) (0) (0)] 32), (b1, .cells #[.int .i64 (k), .string (bs (t)), .slice (A) (ks.length) (c), .slice (B) (xs.length) (e)] 32)] wq, hF.sub (.cons_cons _ (.cons_cons _ (.cons_cons _ (List.nil_sublist _)))), ?_⟩
 refine f_free rfl (v := .pointer (some ⟨b3, 3, none⟩)) (fun w hC => x_fieldAddrO fa_32_3 rfl) (f_free rfl (v := .slice (AJ) (i2) (cJ)) (fun w hC => x_load Tryz.isAgg30 rfl (hC.cell 0 rfl rfl)) (f_free rfl (v := .pointer (some ⟨b1, 3, none⟩)) (fun w hC => x_fieldAddrO fa_32_3 rfl) (f_free rfl (v := .slice (B) (xs.length) (e)) (fun w hC => x_load Tryz.isAgg30 rfl (hC.cell 2 rfl rfl)) (f_free rfl (v := .int .i64 ((i2 : Int))) (fun w hC => x_move rfl) ?_))))
 obtain ⟨ad7, cs7, hA7, hl7, hk7, hx7⟩ := hX.tree_elem (i := i2) (by omega)
 have ho7 := hx7.one_
 refine f_free rfl (v := .pointer (some (ad7.add (i2 * 4)))) (fun w hC => x_indexAddrA (i := (i2 : Int)) sl_30 rfl hA7 rfl (by omega) (by omega)) (f_free rfl (v := .agg (List.toArray cs7)) (fun w hC => x_loadS (l := cs7) Tryz.isAgg32 Tryz.sizeOf32 rfl hl7 (hC.cells0 hk7)) ?_)
 refine f_call rfl (ih xs[i2] (List.getElem_mem (by omega)) _ _ cs7 (hF.rep hx7) (hnx.2 _ (List.getElem_mem (by omega))) (by have := sizeTs_mem (List.getElem_mem (l := xs) (n := i2) (by omega)); omega)) (x_call1 en_72 rfl rfl) ?_
 rintro _ w ⟨ct, rfl, hRt, hE⟩
 have hlt : ct.length = 4 := hRt.length.trans (size_treeD _)
 have hot := hRt.one_
 have hYX := RX.made (ids := [b3, b2, b1] ++ (sq.map (·.1) ++ sj.map (·.1))) hF.same.size (fun x hx => hF.lt_ids (by grind)) hRt
 replace hDX := (hDX.ext hE).append hYX
 replace hF := hF.ext hE
 clear hE hYX
 refine ⟨hF.sub (.cons_cons _ (.cons_cons _ (.cons_cons _ (List.nil_sublist _)))), ?_⟩
 refine f_new rfl (v := fun b => .slice (some ⟨b, 0, none⟩) 1 1) hF (x_buildSlice1 (l := ct) Tryz.underlying30 Tryz.sizeOf32 Tryz.zeroValue32 (by decide) (by decide) rfl hlt) ?_
 clear hF; intro b7 w hb7 hF hE
 replace hDX := hDX.alloc hE hb7
 clear hE
 refine ⟨hF.sub (.cons _ (.cons_cons _ (.cons_cons _ (.cons_cons _ (List.nil_sublist _))))), ?_⟩
 refine f_append ([(b7, .cells (List.toArray ct) 32), (b3, .cells #[.int .i64 (k), .string (bs (t)), .slice (AK) (0) (cK), .slice (AJ) (i2) (cJ)] 32), (b2, .cells #[.int .i64 (0), .string (bs ([])), .slice (none) (0) (0), .slice (none) (0) (0)] 32), (b1, .cells #[.int .i64 (k), .string (bs (t)), .slice (A) (ks.length) (c), .slice (B) (xs.length) (e)] 32)] ++ sq) [] (news := ct) (len' := i2 + 1) (ys := cs2 ++ ct) rfl el_30 hF hSj rfl rfl (by rw [hlt]) (fun _ => ⟨_, rfl, cells_opt (hF.cellsAll 0 rfl)⟩) (ones_eq hot) (by simp only [maxLen]; omega) (rfl) (rfl) (by omega) ?_
 clear hF; intro A8 c8 i_8 w hS8_i hF hE hnew
 replace hDX := hDX.step (ids' := [b7, b3, b2, b1] ++ (sq.map (·.1) ++ i_8.map (·.1))) hE (by grind) (by grind)
 clear hE hnew
 refine ⟨hF.sub (.cons _ (.cons_cons _ (.cons_cons _ (.cons_cons _ (List.nil_sublist _))))), ?_⟩
 refine f_free rfl (v := .pointer (some ⟨b3, 3, none⟩)) (fun w hC => x_fieldAddrO fa_32_3 rfl) ?_
 refine f_storez rfl 1 (l := [.slice (A8) (i2 + 1) (c8)]) (cs' := #[.int .i64 (k), .string (bs (t)), .slice (AK) (0) (cK), .slice (A8) (i2 + 1) (c8)]) hF Tryz.sizeOf30 rfl (v := .slice (A8) (i2 + 1) (c8)) rfl rfl (by simp [one]) rfl (Nat.le_of_ble_eq_true rfl) rfl ?_
 clear hF; intro w hF hE
 replace hDX := hDX.store hE (by grind)
 clear hE
 replace hF : FR w0 [] ([(b7, .cells (List.toArray ct) 32), (b3, .cells #[.int .i64 (k), .string (bs (t)), .slice (AK) (0) (cK), .slice (A8) (i2 + 1) (c8)] 32), (b2, .cells #[.int .i64 (0), .string (bs ([])), .slice (none) (0) (0), .slice (none) (0) (0)] 32), (b1, .cells #[.int .i64 (k), .string (bs (t)), .slice (A) (ks.length) (c), .slice (B) (xs.length) (e)] 32)] ++ (sq ++ (i_8 ++ []))) w := hF
 refine d_nil (e_block (e_seq (c_region (o_val (x_move rfl) (o_val (v := .int .i64 (((i2 + 1 : Nat) : Int))) (x_add rfl rfl (wrap_to (by omega) (by omega) (by omega))) (o_val (x_assign rfl) (o_nil ?_)))))))
 refine e_inv ⟨_, ?_, i2 + 1, A8, c8, i_8, cs2 ++ ct, rfl, (by omega), (hS8_i), (by rw [sortTs_take (by omega)]; exact hDX.sub (by grind)), ⟨rfl, rfl, rfl, rfl, trivial⟩, hF.drop 1⟩
 omega
 refine c_iff rfl ?_
 refine c_exit (e_exit rfl ?_)
 refine e_seq (c_seq (c_region (o_val (v := .agg #[.int .i64 (k), .string (bs (t)), .slice (AK) (0) (cK), .slice (AJ) (i2) (cJ)]) (x_loadS (l := [.int .i64 (k), .string (bs (t)), .slice (AK) (0) (cK), .slice (AJ) (i2) (cJ)]) Tryz.isAgg32 Tryz.sizeOf32 rfl rfl (hF.cellsAll 0 rfl)) ?_)))
 refine o_store 1 (l := [.int .i64 (k), .string (bs (t)), .slice (AK) (0) (cK), .slice (AJ) (i2) (cJ)]) (cs' := #[.int .i64 (k), .string (bs (t)), .slice (AK) (0) (cK), .slice (AJ) (i2) (cJ)]) hF Tryz.sizeOf32 rfl (v := .agg #[.int .i64 (k), .string (bs (t)), .slice (AK) (0) (cK), .slice (AJ) (i2) (cJ)]) rfl rfl (by simp [one]) rfl (Nat.le_of_ble_eq_true rfl) rfl ?_
 clear hF; intro w hF hE
 replace hDX := hDX.store hE (by grind)
 clear hE
 replace hF : FR w0 [] ([(b3, .cells #[.int .i64 (k), .string (bs (t)), .slice (AK) (0) (cK), .slice (AJ) (i2) (cJ)] 32), (b2, .cells #[.int .i64 (k), .string (bs (t)), .slice (AK) (0) (cK), .slice (AJ) (i2) (cJ)] 32), (b1, .cells #[.int .i64 (k), .string (bs (t)), .slice (A) (ks.length) (c), .slice (B) (xs.length) (e)] 32)] ++ (sq ++ (sj ++ []))) w := hF
 refine o_nil (e_seq ?_)
 refine c_ret (e_ret (post_ret (res_c rfl (l := [.int .i64 (k), .string (bs (t)), .slice (AK) (0) (cK), .slice (AJ) (i2) (cJ)]) rfl Tryz.isAgg32 Tryz.sizeOf32 rfl (hF.cellsAll 1 rfl)) ?_))
 refine ⟨_, rfl, ?_, hF.same⟩
 have ej : i2 = xs.length := by omega
 subst ej
 rw [List.take_length] at hDX
 rw [sortT, if_neg (by assumption)]
 exact Rep.tree_mk hk ht (hSq.rep (pre := [_, _, _]) (post := sj ++ []) hF (RX.nil (ids := [])) rfl) (hSj.rep (pre := [_, _, _] ++ sq) (post := []) (by simpa using hF) hDX (by rw [treesD_length, sortTs_eq, List.length_map]))
 refine o_off (o_off (o_off (o_val (x_pickf rfl rfl) (o_nil (e_seq (c_iff rfl ?_))))))
 refine c_exit (e_exit rfl ?_)
 refine e_seq (c_seq (c_region (o_val (v := .agg #[.int .i64 (k), .string (bs (t)), .slice (AK) (0) (cK), .slice (AJ) (i2) (cJ)]) (x_loadS (l := [.int .i64 (k), .string (bs (t)), .slice (AK) (0) (cK), .slice (AJ) (i2) (cJ)]) Tryz.isAgg32 Tryz.sizeOf32 rfl rfl (hF.cellsAll 0 rfl)) ?_)))
 refine o_store 1 (l := [.int .i64 (k), .string (bs (t)), .slice (AK) (0) (cK), .slice (AJ) (i2) (cJ)]) (cs' := #[.int .i64 (k), .string (bs (t)), .slice (AK) (0) (cK), .slice (AJ) (i2) (cJ)]) hF Tryz.sizeOf32 rfl (v := .agg #[.int .i64 (k), .string (bs (t)), .slice (AK) (0) (cK), .slice (AJ) (i2) (cJ)]) rfl rfl (by simp [one]) rfl (Nat.le_of_ble_eq_true rfl) rfl ?_
 clear hF; intro w hF hE
 replace hDX := hDX.store hE (by grind)
 clear hE
 replace hF : FR w0 [] ([(b3, .cells #[.int .i64 (k), .string (bs (t)), .slice (AK) (0) (cK), .slice (AJ) (i2) (cJ)] 32), (b2, .cells #[.int .i64 (k), .string (bs (t)), .slice (AK) (0) (cK), .slice (AJ) (i2) (cJ)] 32), (b1, .cells #[.int .i64 (k), .string (bs (t)), .slice (A) (ks.length) (c), .slice (B) (xs.length) (e)] 32)] ++ (sq ++ (sj ++ []))) w := hF
 refine o_nil (e_seq ?_)
 refine c_ret (e_ret (post_ret (res_c rfl (l := [.int .i64 (k), .string (bs (t)), .slice (AK) (0) (cK), .slice (AJ) (i2) (cJ)]) rfl Tryz.isAgg32 Tryz.sizeOf32 rfl (hF.cellsAll 1 rfl)) ?_))
 refine ⟨_, rfl, ?_, hF.same⟩
 have ej : i2 = xs.length := by omega
 subst ej
 rw [List.take_length] at hDX
 rw [sortT, if_neg (by assumption)]
 exact Rep.tree_mk hk ht (hSq.rep (pre := [_, _, _]) (post := sj ++ []) hF (RX.nil (ids := [])) rfl) (hSj.rep (pre := [_, _, _] ++ sq) (post := []) (by simpa using hF) hDX (by rw [treesD_length, sortTs_eq, List.length_map]))
theorem rsortT_c (x : Tree) : RSortC x := Tree.ind rsort_step x
end Go.Scarf
