/- A part of the proof. -/
import Derived.Test.YtonoededmmohhaaGreatDoorE4
import Derived.Test.YtonoededmmohhaaGreatDoorW19
import Derived.Test.YtonoededmmohhaaGreatDoorP3
set_option linter.all false
namespace Go.Scarf
open Go.RowKit Go.Proofs
def RSizeC (x : Tree) : Prop := sizeT x ≤ 1000000000 → ∀ S w0 cs, Rep S w0 (treeD x) cs → Calls Tryz.prog 46 #[.agg cs.toArray] w0 (Ret fun v w' => v = .int .i64 (sizeT x : Nat) ∧ Same [] w0 w')
def RDepthC (x : Tree) : Prop := sizeT x ≤ 1000000000 → ∀ S w0 cs, Rep S w0 (treeD x) cs → Calls Tryz.prog 47 #[.agg cs.toArray] w0 (Ret fun v w' => v = .int .i64 (depthT x : Nat) ∧ Same [] w0 w')
def hnB (h : Bool) (x : Tree) : Bool := nodeB x && (h || decide (x.kind ≠ 7))
theorem hn_true : hnB true = nodeB := by funext x; simp [hnB]
theorem hn_false : hnB false = rnodeB := by funext x; simp [hnB, rnodeB, Bool.and_comm]
def NodesC (x : Tree) : Prop := sizeT x ≤ 1000000000 → maxL x ≤ 1073741824 → ∀ (h : Bool) S w0 cs, Rep S w0 (treeD x) cs → Calls Tryz.prog 48 #[.agg cs.toArray, .bool h] w0 (Ret fun v w' => v = .bool (allT (hnB h) x) ∧ Same [] w0 w')
theorem sizeTs_take_le : ∀ (xs : List Tree) (j : Nat), sizeTs (xs.take j) ≤ sizeTs xs
  | [], j => by simp
  | x :: xs, 0 => by simp [sizeTs]
  | x :: xs, j + 1 => by
    have := sizeTs_take_le xs j
    rw [List.take_succ_cons, sizeTs, sizeTs]; omega
set_option maxHeartbeats 1000000 in
set_option maxRecDepth 10000 in
theorem rsize_step (k : Int) (t : Str) (ks : List Str) (xs : List Tree) (ih : ∀ x, x ∈ xs → RSizeC x) : RSizeC (.node k t ks xs) := by
 intro hsz S w0 cs hR
 obtain ⟨A, c, B, e, rfl, -, -, -, hX⟩ := hR.tree_inv
 have hXl := hX.slice_len
 have hdl := depthTs_le xs
 rw [sizeT] at hsz
 refine calls_start Tryz.func46 rfl Tryz.ntmps46 (Nat.le_of_ble_eq_true rfl) (args_1 _) ?_
 have hF := FR.start w0 []
 refine c_seq (c_region ?_)
 refine o_box (v := .agg #[.int .i64 (k), .string (bs (t)), .slice (A) (ks.length) (c), .slice (B) (xs.length) (e)]) (cs := #[.int .i64 (k), .string (bs (t)), .slice (A) (ks.length) (c), .slice (B) (xs.length) (e)]) hF rfl rfl ?_
 clear hF; rintro b1 w hb1 hF -
 refine o_val (x_assign rfl) (o_nil (e_seq (c_seq (c_region (o_val (x_assign rfl) (o_nil (e_seq (c_seq (c_seq (c_region (o_val (x_assign rfl) (o_nil (e_seq ?_)))))))))))))
 refine c_block ?_
 refine c_loop (fun μ σ w => ∃ (j : Nat), μ = xs.length - j ∧ (j ≤ xs.length) ∧ AllEq σ [(1, .pointer (some ⟨b1, 0, none⟩)), (3, .int .i64 (((1 + sizeTs (xs.take j) : Nat) : Int))), (4, .int .i64 ((j : Int)))] ∧ FR w0 [] [(b1, .cells #[.int .i64 (k), .string (bs (t)), .slice (A) (ks.length) (c), .slice (B) (xs.length) (e)] 32)] w) _ ⟨0, rfl, (Nat.zero_le _), ⟨rfl, rfl, rfl, trivial⟩, hF⟩ ?_
 clear hF; rintro μ σ w ⟨j, rfl, hj, hs, hF⟩
 refine Cg.slots hs ?_
 clear hs; intro σ
 refine c_seq (c_seq (c_region (o_val (x_move rfl) (o_val (v := .pointer (some ⟨b1, 3, none⟩)) (x_fieldAddrO fa_32_3 rfl) (o_val (v := .slice (B) (xs.length) (e)) (x_load Tryz.isAgg30 rfl (hF.cell 0 rfl rfl)) (o_val (v := .int .i64 ((xs.length : Nat))) (x_len_slice Tryz.underlying30 rfl) (o_val (v := .bool (decide (((j : Int) : Int) < ((xs.length : Nat) : Int)))) (x_lss rfl rfl) (o_nil (e_seq ?_)))))))))
 refine c_splitd (d := 9) (p := ((j : Int) : Int) < ((xs.length : Nat) : Int)) rfl (fun hc0 => ?_) (fun hc0 => ?_)
 refine c_ift rfl (c_skip (e_seq (c_seq (c_block (c_region (o_val (x_move rfl) (o_val (v := .pointer (some ⟨b1, 3, none⟩)) (x_fieldAddrO fa_32_3 rfl) (o_val (v := .slice (B) (xs.length) (e)) (x_load Tryz.isAgg30 rfl (hF.cell 0 rfl rfl)) (o_val (x_move rfl) ?_)))))))))
 obtain ⟨ad0, cs0, hA0, hl0, hk0, hx0⟩ := hX.tree_elem (i := j) (by omega)
 have ho0 := hx0.one_
 refine o_val (v := .pointer (some (ad0.add (j * 4)))) (x_indexAddrA (i := (j : Int)) sl_30 rfl hA0 rfl (by omega) (by omega)) (o_val (v := .agg (List.toArray cs0)) (x_loadS (l := cs0) Tryz.isAgg32 Tryz.sizeOf32 rfl hl0 (hF.cells0 hk0)) ?_)
 refine o_call (ih _ (List.getElem_mem _) (by have := sizeTs_mem (List.getElem_mem (l := xs) (n := j) (by omega)); omega) _ _ _ (hF.rep hx0)) (x_call1 en_46 rfl rfl) ?_
 rintro _ w ⟨rfl, hE⟩
 replace hF := hF.ext hE
 clear hE
 refine o_val (v := .int .i64 (((1 + sizeTs (xs.take (j + 1)) : Nat) : Int))) (x_add rfl rfl (by have h1 := sizeTs_take xs j (by omega); have h2 := sizeTs_mem (List.getElem_mem (l := xs) (n := j) (by omega)); have h3 := sizeTs_take_le xs (j + 1); exact wrap_to (by rw [h1]; omega) (by omega) (by omega))) ?_
 refine o_val (x_assign rfl) (o_nil (e_block (e_seq (c_region (o_val (x_move rfl) (o_val (v := .int .i64 (((j + 1 : Nat) : Int))) (x_add rfl rfl (wrap_to (by omega) (by omega) (by omega))) (o_val (x_assign rfl) (o_nil ?_))))))))
 refine e_inv ⟨_, ?_, j + 1, rfl, (by omega), ⟨rfl, rfl, rfl, trivial⟩, hF⟩
 omega
 refine c_iff rfl ?_
 refine c_exit (e_exit rfl ?_)
 refine e_seq (c_seq (c_region ?_))
 have eT : xs.take j = xs := List.take_of_length_le (by omega)
 refine o_val (x_move rfl) (o_val (x_assign rfl) (o_nil (e_seq ?_)))
 refine c_ret (e_ret (post_ret (res_1 (v := .int .i64 (((1 + sizeTs (xs.take j) : Nat) : Int))) rfl rfl) ?_))
 exact ⟨by rw [eT, sizeT], hF.same⟩
theorem rsizeT_c (x : Tree) : RSizeC x := Tree.ind rsize_step x
set_option maxHeartbeats 1000000 in
set_option maxRecDepth 10000 in
theorem rdepth_step (k : Int) (t : Str) (ks : List Str) (xs : List Tree) (ih : ∀ x, x ∈ xs → RDepthC x) : RDepthC (.node k t ks xs) := by
 intro hsz S w0 cs hR
 obtain ⟨A, c, B, e, rfl, -, -, -, hX⟩ := hR.tree_inv
 have hXl := hX.slice_len
 have hdl := depthTs_le xs
 rw [sizeT] at hsz
 refine calls_start Tryz.func47 rfl Tryz.ntmps47 (Nat.le_of_ble_eq_true rfl) (args_1 _) ?_
 have hF := FR.start w0 []
 refine c_seq (c_region ?_)
 refine o_box (v := .agg #[.int .i64 (k), .string (bs (t)), .slice (A) (ks.length) (c), .slice (B) (xs.length) (e)]) (cs := #[.int .i64 (k), .string (bs (t)), .slice (A) (ks.length) (c), .slice (B) (xs.length) (e)]) hF rfl rfl ?_
 clear hF; rintro b1 w hb1 hF -
 refine o_val (x_assign rfl) (o_nil (e_seq (c_seq (c_region (o_val (x_assign rfl) (o_nil (e_seq (c_seq (c_seq (c_region (o_val (x_assign rfl) (o_nil (e_seq ?_)))))))))))))
 refine c_block ?_
 refine c_loop (fun μ σ w => ∃ (j : Nat), μ = xs.length - j ∧ (j ≤ xs.length) ∧ AllEq σ [(1, .pointer (some ⟨b1, 0, none⟩)), (3, .int .i64 ((depthTs (xs.take j) : Nat))), (4, .int .i64 ((j : Int)))] ∧ FR w0 [] [(b1, .cells #[.int .i64 (k), .string (bs (t)), .slice (A) (ks.length) (c), .slice (B) (xs.length) (e)] 32)] w) _ ⟨0, rfl, (Nat.zero_le _), ⟨rfl, rfl, rfl, trivial⟩, hF⟩ ?_
 clear hF; rintro μ σ w ⟨j, rfl, hj, hs, hF⟩
 refine Cg.slots hs ?_
 clear hs; intro σ
 refine c_seq (c_seq (c_region (o_val (x_move rfl) (o_val (v := .pointer (some ⟨b1, 3, none⟩)) (x_fieldAddrO fa_32_3 rfl) (o_val (v := .slice (B) (xs.length) (e)) (x_load Tryz.isAgg30 rfl (hF.cell 0 rfl rfl)) (o_val (v := .int .i64 ((xs.length : Nat))) (x_len_slice Tryz.underlying30 rfl) (o_val (v := .bool (decide (((j : Int) : Int) < ((xs.length : Nat) : Int)))) (x_lss rfl rfl) (o_nil (e_seq ?_)))))))))
 refine c_splitd (d := 9) (p := ((j : Int) : Int) < ((xs.length : Nat) : Int)) rfl (fun hc0 => ?_) (fun hc0 => ?_)
 refine c_ift rfl (c_skip (e_seq (c_seq (c_block (c_region (o_val (x_move rfl) (o_val (v := .pointer (some ⟨b1, 3, none⟩)) (x_fieldAddrO fa_32_3 rfl) (o_val (v := .slice (B) (xs.length) (e)) (x_load Tryz.isAgg30 rfl (hF.cell 0 rfl rfl)) (o_val (x_move rfl) ?_)))))))))
 obtain ⟨ad0, cs0, hA0, hl0, hk0, hx0⟩ := hX.tree_elem (i := j) (by omega)
 have ho0 := hx0.one_
 refine o_val (v := .pointer (some (ad0.add (j * 4)))) (x_indexAddrA (i := (j : Int)) sl_30 rfl hA0 rfl (by omega) (by omega)) (o_val (v := .agg (List.toArray cs0)) (x_loadS (l := cs0) Tryz.isAgg32 Tryz.sizeOf32 rfl hl0 (hF.cells0 hk0)) ?_)
 refine o_call (ih _ (List.getElem_mem _) (by have := sizeTs_mem (List.getElem_mem (l := xs) (n := j) (by omega)); omega) _ _ _ (hF.rep hx0)) (x_call1 en_47 rfl rfl) ?_
 rintro _ w ⟨rfl, hE⟩
 replace hF := hF.ext hE
 clear hE
 refine o_val (v := .int .i64 ((depthTs (xs.take (j + 1)) : Nat))) (by rw [← show max ((depthTs (xs.take j) : Nat) : Int) ((depthT xs[j] : Nat) : Int) = ((depthTs (xs.take (j + 1)) : Nat) : Int) from by rw [depthTs_take xs j (by omega)]; omega]; exact x_max rfl rfl) ?_
 refine o_val (x_assign rfl) (o_nil (e_block (e_seq (c_region (o_val (x_move rfl) (o_val (v := .int .i64 (((j + 1 : Nat) : Int))) (x_add rfl rfl (wrap_to (by omega) (by omega) (by omega))) (o_val (x_assign rfl) (o_nil ?_))))))))
 refine e_inv ⟨_, ?_, j + 1, rfl, (by omega), ⟨rfl, rfl, rfl, trivial⟩, hF⟩
 omega
 refine c_iff rfl ?_
 refine c_exit (e_exit rfl ?_)
 refine e_seq (c_seq (c_region (o_val (x_move rfl) ?_)))
 have eT : xs.take j = xs := List.take_of_length_le (by omega)
 refine o_val (v := .int .i64 ((depthT (.node k t ks xs) : Nat))) (x_add rfl rfl (by rw [eT, depthT]; exact wrap_to (by omega) (by omega) (by omega))) ?_
 refine o_val (x_assign rfl) (o_nil (e_seq ?_))
 refine c_ret (e_ret (post_ret (res_1 (v := .int .i64 ((depthT (.node k t ks xs) : Nat))) rfl rfl) ?_))
 exact ⟨rfl, hF.same⟩
theorem rdepthT_c (x : Tree) : RDepthC x := Tree.ind rdepth_step x
theorem nb_false {b : Bool} (h : (!b) = false) : b = true := by simpa using h
theorem nb_true {b : Bool} (h : (!b) = true) : b = false := by simpa using h
theorem node_six {t : Str} {ks : List Str} {xs : List Tree} : nodeB (.node 6 t ks xs) = (keyedB ks xs.length && decide (t = [])) := by simp only [nodeB]; rfl
theorem six_bad {t : Str} {ks : List Str} {xs : List Tree} {i : Nat} (h : i < ks.length) (hv : Lib.validD ks[i] = false) : nodeB (.node 6 t ks xs) = false := by
  rw [node_six, keyedB, not_all h hv]; simp
theorem six_dup {t : Str} {ks : List Str} {xs : List Tree} {i m : Nat} (h : i < ks.length) (hm : m < i) (he : ks[m] = ks[i]) : nodeB (.node 6 t ks xs) = false := by
  have : ¬ ks.Nodup := not_nodup_of h (by rw [← he]; exact List.mem_take_iff_getElem.2 ⟨m, by omega, rfl⟩)
  rw [node_six, keyedB, decide_eq_false this]; simp
theorem six_end {t : Str} {ks : List Str} {xs : List Tree} (hn : ks.Nodup) (hv : ks.all Lib.validD = true) : nodeB (.node 6 t ks xs) = (decide (t = []) && decide (((ks.length : Nat) : Int) = ((xs.length : Nat) : Int))) := by
  rw [node_six, keyedB, decide_eq_true hn, hv, Bool.true_and, Bool.true_and, Bool.and_comm]
theorem node_not {k : Int} {t : Str} {ks : List Str} {xs : List Tree} (h1 : ¬ k = 1) (h2 : ¬ k = 2) (h3 : ¬ k = 3) (h4 : ¬ k = 4) (h5 : ¬ k = 5) (h6 : ¬ k = 6) (h7 : ¬ k = 7) : nodeB (.node k t ks xs) = false := by
  simp [nodeB, h1, h2, h3, h4, h5, h6, h7]
theorem node_keys {k : Int} {t : Str} {ks : List Str} {xs : List Tree} (h : k ≠ 6) (hk : (0 : Int) < ((ks.length : Nat) : Int)) : nodeB (.node k t ks xs) = false := by
  have h1 : ks ≠ [] := by rintro rfl; simp at hk
  by_cases h5 : k = 5 <;> simp [nodeB, h, h5, h1]
theorem node_items {k : Int} {t : Str} {ks : List Str} {xs : List Tree} (h : k ≠ 6) (h5 : k ≠ 5) (hk : (0 : Int) < ((xs.length : Nat) : Int)) : nodeB (.node k t ks xs) = false := by
  have h1 : xs ≠ [] := by rintro rfl; simp at hk
  simp [nodeB, h, h5, h1]
theorem nd1 {k : Int} {t : Str} {ks : List Str} {xs : List Tree} (h : k = 1) (hk : ks = []) (hx : xs = []) : nodeB (.node k t ks xs) = decide (t = []) := by subst h hk hx; simp [nodeB]
theorem nd5 {k : Int} {t : Str} {ks : List Str} {xs : List Tree} (h : k = 5) (hk : ks = []) : nodeB (.node k t ks xs) = decide (t = []) := by subst h hk; simp [nodeB]
theorem nd2 {k : Int} {t : Str} {ks : List Str} {xs : List Tree} (h : k = 2) (hk : ks = []) (hx : xs = []) : nodeB (.node k t ks xs) = (decide (t = [116, 114, 117, 101]) || decide (t = [102, 97, 108, 115, 101])) := by subst h hk hx; simp [nodeB]
theorem nd3 {k : Int} {t : Str} {ks : List Str} {xs : List Tree} (h : k = 3) (hk : ks = []) (hx : xs = []) : nodeB (.node k t ks xs) = decimalB t := by subst h hk hx; simp [nodeB]
theorem nd4 {k : Int} {t : Str} {ks : List Str} {xs : List Tree} (h : k = 4) (hk : ks = []) (hx : xs = []) : nodeB (.node k t ks xs) = Lib.validD t := by subst h hk hx; simp [nodeB]
theorem nd7 {k : Int} {t : Str} {ks : List Str} {xs : List Tree} (h : k = 7) (hk : ks = []) (hx : xs = []) : nodeB (.node k t ks xs) = holeB t := by subst h hk hx; simp [nodeB]
theorem hole_t {t : Str} (h1 : decimalB t = true) (h2 : (intN (parseN t).1).2 = true) : holeB t = decide (0 ≤ (intN (parseN t).1).1) := by rw [holeB, h1, h2]; rfl
theorem hole_f1 {t : Str} (h1 : decimalB t = false) : holeB t = false := by rw [holeB, h1]; rfl
theorem hole_f2 {t : Str} (h2 : (intN (parseN t).1).2 = false) : holeB t = false := by rw [holeB, h2, Bool.and_false]; rfl
theorem ks_nil {ks : List Str} (h : ¬ (0 : Int) < ((ks.length : Nat) : Int)) : ks = [] := List.eq_nil_of_length_eq_zero (by omega)
theorem xs_nil {xs : List Tree} (h : ¬ (0 : Int) < ((xs.length : Nat) : Int)) : xs = [] := List.eq_nil_of_length_eq_zero (by omega)
set_option maxHeartbeats 8000000 in
set_option maxRecDepth 10000 in
theorem rnode_c_ (k : Int) (t : Str) (ks : List Str) (xs : List Tree) (S : Nat → Prop) (w0 : World) (cs : List Value) (hR : Rep S w0 (treeD (.node k t ks xs)) cs) (hm : maxL (.node k t ks xs) ≤ 1073741824) : Calls Tryz.prog 69 #[.agg cs.toArray] w0 (Ret fun v w' => v = .bool (nodeB (.node k t ks xs)) ∧ Same [] w0 w') := by
 obtain ⟨A, c, B, e, rfl, -, -, hK, hX⟩ := hR.tree_inv
 have hKl := hK.slice_len
 have hXl := hX.slice_len
 rw [maxL] at hm
 have hkm : ∀ q (h : q < ks.length), ks[q].length ≤ 1073741824 := fun q h => Nat.le_trans (maxKs_mem (List.getElem_mem h)) (by omega)
 refine calls_start Tryz.func69 rfl Tryz.ntmps69 (Nat.le_of_ble_eq_true rfl) (args_1 _) ?_
 have hF := FR.start w0 []
 refine c_seq (c_region ?_)
 refine o_box (v := .agg #[.int .i64 (k), .string (bs (t)), .slice (A) (ks.length) (c), .slice (B) (xs.length) (e)]) (cs := #[.int .i64 (k), .string (bs (t)), .slice (A) (ks.length) (c), .slice (B) (xs.length) (e)]) hF rfl rfl ?_
 clear hF; rintro b1 w hb1 hF -
 refine o_val (x_assign rfl) (o_nil (e_seq (c_seq ?_)))
 refine c_join (fun σ w => (k ≠ 6 → ks = []) ∧ (k ≠ 6 → k ≠ 5 → xs = []) ∧ AllEq σ [(1, .pointer (some ⟨b1, 0, none⟩))] ∧ FR w0 [] [(b1, .cells #[.int .i64 (k), .string (bs (t)), .slice (A) (ks.length) (c), .slice (B) (xs.length) (e)] 32)] w) ?_ ?_
 ·
  refine c_seq (c_region (o_val (v := .pointer (some ⟨b1, 0, none⟩)) (x_fieldAddrO fa_32_0 rfl) (o_val (v := .int .i64 (k)) (x_load Tryz.isAgg3 rfl (hF.cell 0 rfl rfl)) (o_val (v := .bool (decide ((k : Int) ≠ (6 : Int)))) (x_neq rfl rfl) (o_val (x_move rfl) ?_)))))
  refine o_splitd (d := 15) (p := (k : Int) ≠ (6 : Int)) rfl (fun hg0 => ?_) (fun hg0 => ?_)
  ·
   refine o_val (v := .pointer (some ⟨b1, 2, none⟩)) (x_fieldAddrO fa_32_2 rfl) (o_val (v := .slice (A) (ks.length) (c)) (x_load Tryz.isAgg22 rfl (hF.cell 0 rfl rfl)) (o_val (v := .int .i64 ((ks.length : Nat))) (x_len_slice Tryz.underlying22 rfl) (o_val (v := .bool (decide ((0 : Int) < ((ks.length : Nat) : Int)))) (x_gtr rfl rfl) (o_val (x_pickt rfl rfl) (o_val (x_move rfl) ?_)))))
   refine o_splitd (d := 21) (p := (0 : Int) < ((ks.length : Nat) : Int)) rfl (fun hg1 => ?_) (fun hg1 => ?_)
   ·
    refine o_off (o_off (o_off (o_off (o_off (o_off (o_off (o_off (o_off (o_off (o_off (o_off (o_off (o_off ?_)))))))))))))
    refine o_val (x_pickt rfl rfl) (o_nil (e_seq (c_ift rfl (c_seq (c_region (o_val (x_assign rfl) (o_nil (e_seq ?_))))))))
    refine c_ret (e_ret (post_ret (res_1 (v := .bool false) rfl rfl) ?_))
    refine ⟨congrArg Value.bool ?_, hF.same⟩
    first | exact (node_keys (by omega) (by assumption)).symm | exact (node_items (by omega) (by omega) (by assumption)).symm
   ·
    refine o_val (v := .pointer (some ⟨b1, 0, none⟩)) (x_fieldAddrO fa_32_0 rfl) (o_val (v := .int .i64 (k)) (x_load Tryz.isAgg3 rfl (hF.cell 0 rfl rfl)) (o_val (v := .bool (decide ((k : Int) ≠ (6 : Int)))) (x_neq rfl rfl) (o_val (x_move rfl) ?_)))
    refine o_splitd (d := 25) (p := (k : Int) ≠ (6 : Int)) rfl (fun hg2 => ?_) (fun hg2 => ?_)
    ·
     refine o_val (v := .pointer (some ⟨b1, 0, none⟩)) (x_fieldAddrO fa_32_0 rfl) (o_val (v := .int .i64 (k)) (x_load Tryz.isAgg3 rfl (hF.cell 0 rfl rfl)) (o_val (v := .bool (decide ((k : Int) ≠ (5 : Int)))) (x_neq rfl rfl) (o_val (x_pickt rfl rfl) (o_val (x_move rfl) ?_))))
     refine o_splitd (d := 30) (p := (k : Int) ≠ (5 : Int)) rfl (fun hg3 => ?_) (fun hg3 => ?_)
     ·
      refine o_val (v := .pointer (some ⟨b1, 3, none⟩)) (x_fieldAddrO fa_32_3 rfl) (o_val (v := .slice (B) (xs.length) (e)) (x_load Tryz.isAgg30 rfl (hF.cell 0 rfl rfl)) (o_val (v := .int .i64 ((xs.length : Nat))) (x_len_slice Tryz.underlying30 rfl) (o_val (v := .bool (decide ((0 : Int) < ((xs.length : Nat) : Int)))) (x_gtr rfl rfl) (o_val (x_pickt rfl rfl) (o_val (x_pickf rfl rfl) (o_nil (e_seq ?_)))))))
      refine c_splitd (d := 36) (p := (0 : Int) < ((xs.length : Nat) : Int)) rfl (fun hc0 => ?_) (fun hc0 => ?_)
      ·
       refine c_ift rfl (c_seq (c_region (o_val (x_assign rfl) (o_nil (e_seq ?_)))))
       refine c_ret (e_ret (post_ret (res_1 (v := .bool false) rfl rfl) ?_))
       refine ⟨congrArg Value.bool ?_, hF.same⟩
       first | exact (node_keys (by omega) (by assumption)).symm | exact (node_items (by omega) (by omega) (by assumption)).symm
      ·
       refine c_iff rfl (c_skip ?_)
       exact e_inv ⟨(by intro h; first | exact ks_nil (by omega) | (exfalso; omega)), (by intro h h5; first | exact xs_nil (by omega) | (exfalso; omega)), ⟨rfl, trivial⟩, hF⟩
     ·
      refine o_off (o_off (o_off (o_off (o_val (x_pickf rfl rfl) (o_val (x_pickf rfl rfl) (o_nil (e_seq (c_iff rfl (c_skip ?_)))))))))
      exact e_inv ⟨(by intro h; first | exact ks_nil (by omega) | (exfalso; omega)), (by intro h h5; first | exact xs_nil (by omega) | (exfalso; omega)), ⟨rfl, trivial⟩, hF⟩
    ·
     refine o_off (o_off (o_off (o_val (x_pickf rfl rfl) (o_val (x_move rfl) (o_off (o_off (o_off (o_off (o_val (x_pickf rfl rfl) (o_val (x_pickf rfl rfl) (o_nil (e_seq (c_iff rfl ?_)))))))))))))
     refine c_skip ?_
     exact e_inv ⟨(by intro h; first | exact ks_nil (by omega) | (exfalso; omega)), (by intro h h5; first | exact xs_nil (by omega) | (exfalso; omega)), ⟨rfl, trivial⟩, hF⟩
  ·
   refine o_off (o_off (o_off (o_off (o_val (x_pickf rfl rfl) (o_val (x_move rfl) (o_val (v := .pointer (some ⟨b1, 0, none⟩)) (x_fieldAddrO fa_32_0 rfl) (o_val (v := .int .i64 (k)) (x_load Tryz.isAgg3 rfl (hF.cell 0 rfl rfl)) (o_val (v := .bool (decide ((k : Int) ≠ (6 : Int)))) (x_neq rfl rfl) (o_val (x_move rfl) ?_)))))))))
   refine o_splitd (d := 25) (p := (k : Int) ≠ (6 : Int)) rfl (fun hg4 => ?_) (fun hg4 => ?_)
   ·
    refine o_val (v := .pointer (some ⟨b1, 0, none⟩)) (x_fieldAddrO fa_32_0 rfl) (o_val (v := .int .i64 (k)) (x_load Tryz.isAgg3 rfl (hF.cell 0 rfl rfl)) (o_val (v := .bool (decide ((k : Int) ≠ (5 : Int)))) (x_neq rfl rfl) (o_val (x_pickt rfl rfl) (o_val (x_move rfl) ?_))))
    refine o_splitd (d := 30) (p := (k : Int) ≠ (5 : Int)) rfl (fun hg5 => ?_) (fun hg5 => ?_)
    ·
     refine o_val (v := .pointer (some ⟨b1, 3, none⟩)) (x_fieldAddrO fa_32_3 rfl) (o_val (v := .slice (B) (xs.length) (e)) (x_load Tryz.isAgg30 rfl (hF.cell 0 rfl rfl)) (o_val (v := .int .i64 ((xs.length : Nat))) (x_len_slice Tryz.underlying30 rfl) (o_val (v := .bool (decide ((0 : Int) < ((xs.length : Nat) : Int)))) (x_gtr rfl rfl) (o_val (x_pickt rfl rfl) (o_val (x_pickf rfl rfl) (o_nil (e_seq ?_)))))))
     refine c_splitd (d := 36) (p := (0 : Int) < ((xs.length : Nat) : Int)) rfl (fun hc0 => ?_) (fun hc0 => ?_)
     ·
      refine c_ift rfl (c_seq (c_region (o_val (x_assign rfl) (o_nil (e_seq ?_)))))
      refine c_ret (e_ret (post_ret (res_1 (v := .bool false) rfl rfl) ?_))
      refine ⟨congrArg Value.bool ?_, hF.same⟩
      first | exact (node_keys (by omega) (by assumption)).symm | exact (node_items (by omega) (by omega) (by assumption)).symm
     ·
      refine c_iff rfl (c_skip ?_)
      exact e_inv ⟨(by intro h; first | exact ks_nil (by omega) | (exfalso; omega)), (by intro h h5; first | exact xs_nil (by omega) | (exfalso; omega)), ⟨rfl, trivial⟩, hF⟩
    ·
     refine o_off (o_off (o_off (o_off (o_val (x_pickf rfl rfl) (o_val (x_pickf rfl rfl) (o_nil (e_seq (c_iff rfl (c_skip ?_)))))))))
     exact e_inv ⟨(by intro h; first | exact ks_nil (by omega) | (exfalso; omega)), (by intro h h5; first | exact xs_nil (by omega) | (exfalso; omega)), ⟨rfl, trivial⟩, hF⟩
   ·
    refine o_off (o_off (o_off (o_val (x_pickf rfl rfl) (o_val (x_move rfl) (o_off (o_off (o_off (o_off (o_val (x_pickf rfl rfl) (o_val (x_pickf rfl rfl) (o_nil (e_seq (c_iff rfl ?_)))))))))))))
    refine c_skip ?_
    exact e_inv ⟨(by intro h; first | exact ks_nil (by omega) | (exfalso; omega)), (by intro h h5; first | exact xs_nil (by omega) | (exfalso; omega)), ⟨rfl, trivial⟩, hF⟩
 clear hF; rintro σ w ⟨hk0, hx0, hs, hF⟩
 refine Eg.slots hs ?_
 clear hs; intro σ
 refine e_seq (c_seq (c_seq (c_region (o_val (v := .pointer (some ⟨b1, 0, none⟩)) (x_fieldAddrO fa_32_0 rfl) (o_val (v := .int .i64 (k)) (x_load Tryz.isAgg3 rfl (hF.cell 0 rfl rfl)) (o_nil (e_seq (c_block (c_seq (c_seq (c_region (o_val (v := .bool (decide ((k : Int) = (1 : Int)))) (x_eql rfl rfl) (o_val (x_assign rfl) ?_)))))))))))))
 refine o_nil (e_seq ?_)
 refine c_splitd (d := 39) (p := (k : Int) = (1 : Int)) rfl (fun hc1 => ?_) (fun hc1 => ?_)
 ·
  refine c_ift rfl (c_skip (e_seq (c_ift rfl (c_seq (c_region (o_val (v := .pointer (some ⟨b1, 1, none⟩)) (x_fieldAddrO fa_32_1 rfl) (o_val (v := .string (bs (t))) (x_load Tryz.isAgg9 rfl (hF.cell 0 rfl rfl)) (o_val (v := .bool (decide ((t : Str) = []))) (x_eqls rfl rfl) (o_val (x_assign rfl) (o_nil (e_seq ?_)))))))))))
  refine c_ret (e_ret (post_ret (res_1 (v := .bool (decide ((t : Str) = []))) rfl rfl) ?_))
  refine ⟨congrArg Value.bool ?_, hF.same⟩
  first | (exfalso; omega) | exact (nd5 (by omega) (hk0 (by omega))).symm | exact (nd1 (by omega) (hk0 (by omega)) (hx0 (by omega) (by omega))).symm
 ·
  refine c_iff rfl (c_region (o_val (v := .bool (decide ((k : Int) = (5 : Int)))) (x_eql rfl rfl) (o_val (x_assign rfl) (o_nil (e_seq ?_)))))
  refine c_splitd (d := 39) (p := (k : Int) = (5 : Int)) rfl (fun hc2 => ?_) (fun hc2 => ?_)
  ·
   refine c_ift rfl (c_seq (c_region (o_val (v := .pointer (some ⟨b1, 1, none⟩)) (x_fieldAddrO fa_32_1 rfl) (o_val (v := .string (bs (t))) (x_load Tryz.isAgg9 rfl (hF.cell 0 rfl rfl)) (o_val (v := .bool (decide ((t : Str) = []))) (x_eqls rfl rfl) (o_val (x_assign rfl) (o_nil (e_seq ?_))))))))
   refine c_ret (e_ret (post_ret (res_1 (v := .bool (decide ((t : Str) = []))) rfl rfl) ?_))
   refine ⟨congrArg Value.bool ?_, hF.same⟩
   first | (exfalso; omega) | exact (nd5 (by omega) (hk0 (by omega))).symm | exact (nd1 (by omega) (hk0 (by omega)) (hx0 (by omega) (by omega))).symm
  ·
   refine c_iff rfl (c_seq (c_region (o_val (v := .bool (decide ((k : Int) = (2 : Int)))) (x_eql rfl rfl) (o_val (x_assign rfl) (o_nil (e_seq ?_))))))
   refine c_splitd (d := 45) (p := (k : Int) = (2 : Int)) rfl (fun hc3 => ?_) (fun hc3 => ?_)
   ·
    refine c_ift rfl (c_seq (c_region (o_val (v := .pointer (some ⟨b1, 1, none⟩)) (x_fieldAddrO fa_32_1 rfl) (o_val (v := .string (bs (t))) (x_load Tryz.isAgg9 rfl (hF.cell 0 rfl rfl)) (o_val (v := .bool (decide ((t : Str) = [116, 114, 117, 101]))) (x_eqls rfl rfl) (o_val (x_move rfl) ?_))))))
    refine o_splitd (d := 50) (p := (t : Str) = [116, 114, 117, 101]) rfl (fun hg6 => ?_) (fun hg6 => ?_)
    ·
     refine o_off (o_off (o_off (o_val (x_pickt rfl rfl) (o_val (x_assign rfl) (o_nil (e_seq ?_))))))
     refine c_ret (e_ret (post_ret (res_1 (v := .bool true) rfl rfl) ?_))
     refine ⟨congrArg Value.bool ?_, hF.same⟩
     first | (exfalso; omega) | rw [nd2 (by omega) (hk0 (by omega)) (hx0 (by omega) (by omega))]
     all_goals first | (rw [decide_eq_true (show t = [116, 114, 117, 101] by assumption)]; rfl) | (rw [decide_eq_false (show ¬ t = [116, 114, 117, 101] by assumption)]; rfl)
    ·
     refine o_val (v := .pointer (some ⟨b1, 1, none⟩)) (x_fieldAddrO fa_32_1 rfl) (o_val (v := .string (bs (t))) (x_load Tryz.isAgg9 rfl (hF.cell 0 rfl rfl)) (o_val (v := .bool (decide ((t : Str) = [102, 97, 108, 115, 101]))) (x_eqls rfl rfl) (o_val (x_pickf rfl rfl) (o_val (x_assign rfl) (o_nil (e_seq ?_))))))
     refine c_ret (e_ret (post_ret (res_1 (v := .bool (decide ((t : Str) = [102, 97, 108, 115, 101]))) rfl rfl) ?_))
     refine ⟨congrArg Value.bool ?_, hF.same⟩
     first | (exfalso; omega) | rw [nd2 (by omega) (hk0 (by omega)) (hx0 (by omega) (by omega))]
     all_goals first | (rw [decide_eq_true (show t = [116, 114, 117, 101] by assumption)]; rfl) | (rw [decide_eq_false (show ¬ t = [116, 114, 117, 101] by assumption)]; rfl)
   ·
    refine c_iff rfl (c_seq (c_region (o_val (v := .bool (decide ((k : Int) = (3 : Int)))) (x_eql rfl rfl) (o_val (x_assign rfl) (o_nil (e_seq ?_))))))
    refine c_splitd (d := 55) (p := (k : Int) = (3 : Int)) rfl (fun hc4 => ?_) (fun hc4 => ?_)
    ·
     refine c_ift rfl (c_seq (c_region (o_val (v := .pointer (some ⟨b1, 1, none⟩)) (x_fieldAddrO fa_32_1 rfl) (o_val (v := .string (bs (t))) (x_load Tryz.isAgg9 rfl (hF.cell 0 rfl rfl)) ?_))))
     refine o_call (rdecimal_c t (by omega) _) (x_call1 en_85 rfl rfl) ?_
     rintro _ w ⟨rfl, hE⟩
     replace hF := hF.ext hE
     clear hE
     refine o_val (x_move rfl) (o_val (x_extract rfl rfl) (o_val (x_extract rfl rfl) ?_))
     refine o_lay (l := [.bool ((parseN t).1.neg), .string (bs ((parseN t).1.digits)), .int .i64 ((parseN t).1.exp)]) hF Tryz.zeroValue63 Tryz.sizeOf63 rfl (v := .agg #[.bool ((parseN t).1.neg), .string (bs ((parseN t).1.digits)), .int .i64 ((parseN t).1.exp)]) rfl rfl (by simp [one]) rfl ?_
     clear hF; rintro b2 w hb2 hF -
     refine o_val (x_assign rfl) (o_nil (e_seq (c_seq (c_region (o_val (x_move rfl) (o_val (x_assign rfl) (o_nil (e_seq ?_))))))))
     refine c_ret (e_ret (post_ret (res_1 (v := .bool (decimalB t)) rfl rfl) ?_))
     refine ⟨congrArg Value.bool ?_, hF.same⟩
     first | (exfalso; omega) | exact (nd3 (by omega) (hk0 (by omega)) (hx0 (by omega) (by omega))).symm
    ·
     refine c_iff rfl (c_seq (c_region (o_val (v := .bool (decide ((k : Int) = (4 : Int)))) (x_eql rfl rfl) (o_val (x_assign rfl) (o_nil (e_seq ?_))))))
     refine c_splitd (d := 64) (p := (k : Int) = (4 : Int)) rfl (fun hc5 => ?_) (fun hc5 => ?_)
     ·
      refine c_ift rfl (c_seq (c_region (o_val (v := .pointer (some ⟨b1, 1, none⟩)) (x_fieldAddrO fa_32_1 rfl) (o_val (v := .string (bs (t))) (x_load Tryz.isAgg9 rfl (hF.cell 0 rfl rfl)) ?_))))
      refine o_call (utf_c t (by omega) _) (x_call1 en_86 rfl rfl) ?_
      rintro _ w ⟨rfl, hE⟩
      replace hF := hF.ext hE
      clear hE
      refine o_val (x_assign rfl) (o_nil (e_seq ?_))
      refine c_ret (e_ret (post_ret (res_1 (v := .bool (Lib.validD t)) rfl rfl) ?_))
      refine ⟨congrArg Value.bool ?_, hF.same⟩
      first | (exfalso; omega) | exact (nd4 (by omega) (hk0 (by omega)) (hx0 (by omega) (by omega))).symm
     ·
      refine c_iff rfl (c_seq (c_region (o_val (v := .bool (decide ((k : Int) = (7 : Int)))) (x_eql rfl rfl) (o_val (x_assign rfl) (o_nil (e_seq ?_))))))
      refine c_splitd (d := 69) (p := (k : Int) = (7 : Int)) rfl (fun hc6 => ?_) (fun hc6 => ?_)
      ·
       refine c_ift rfl (c_seq (c_region (o_val (v := .pointer (some ⟨b1, 1, none⟩)) (x_fieldAddrO fa_32_1 rfl) (o_val (v := .string (bs (t))) (x_load Tryz.isAgg9 rfl (hF.cell 0 rfl rfl)) ?_))))
       refine o_call (rdecimal_c t (by omega) _) (x_call1 en_85 rfl rfl) ?_
       rintro _ w ⟨rfl, hE⟩
       replace hF := hF.ext hE
       clear hE
       refine o_val (x_move rfl) (o_val (x_extract rfl rfl) (o_val (x_extract rfl rfl) ?_))
       refine o_lay (l := [.bool ((parseN t).1.neg), .string (bs ((parseN t).1.digits)), .int .i64 ((parseN t).1.exp)]) hF Tryz.zeroValue63 Tryz.sizeOf63 rfl (v := .agg #[.bool ((parseN t).1.neg), .string (bs ((parseN t).1.digits)), .int .i64 ((parseN t).1.exp)]) rfl rfl (by simp [one]) rfl ?_
       clear hF; rintro b3 w hb3 hF -
       refine o_val (x_assign rfl) (o_nil (e_seq (c_seq (c_region (o_val (v := .agg #[.bool ((parseN t).1.neg), .string (bs ((parseN t).1.digits)), .int .i64 ((parseN t).1.exp)]) (x_loadS (l := [.bool ((parseN t).1.neg), .string (bs ((parseN t).1.digits)), .int .i64 ((parseN t).1.exp)]) Tryz.isAgg63 Tryz.sizeOf63 rfl rfl (hF.cellsAll 0 rfl)) ?_)))))
       refine o_call (rint_c (parseN t).1 (by have := parseN_len t; omega) _) (x_call1 en_87 rfl rfl) ?_
       rintro _ w ⟨rfl, hE⟩
       replace hF := hF.ext hE
       clear hE
       refine o_val (x_move rfl) (o_val (x_extract rfl rfl) (o_val (x_extract rfl rfl) (o_val (x_assign rfl) (o_val (x_assign rfl) (o_nil (e_seq (c_seq (c_region (o_val (x_move rfl) (o_val (x_move rfl) ?_))))))))))
       refine o_split (d := 83) (b := decimalB t) rfl (fun hg7 => ?_) (fun hg7 => ?_)
       ·
        refine o_val (x_move rfl) (o_val (x_pickt rfl rfl) (o_val (x_move rfl) ?_))
        refine o_split (d := 86) (b := (intN (parseN t).1).2) rfl (fun hg8 => ?_) (fun hg8 => ?_)
        ·
         refine o_val (x_move rfl) (o_val (v := .bool (decide ((0 : Int) ≤ ((intN (parseN t).1).1 : Int)))) (x_geq rfl rfl) (o_val (x_pickt rfl rfl) (o_val (x_assign rfl) (o_nil (e_seq ?_)))))
         refine c_ret (e_ret (post_ret (res_1 (v := .bool (decide ((0 : Int) ≤ ((intN (parseN t).1).1 : Int)))) rfl rfl) ?_))
         refine ⟨congrArg Value.bool ?_, hF.same⟩
         first | (exfalso; omega) | rw [nd7 (by omega) (hk0 (by omega)) (hx0 (by omega) (by omega))]
         all_goals first | exact (hole_f1 (by assumption)).symm | exact (hole_f2 (by assumption)).symm | exact (hole_t (by assumption) (by assumption)).symm
        ·
         refine o_off (o_off (o_val (x_pickf rfl rfl) (o_val (x_assign rfl) (o_nil (e_seq ?_)))))
         refine c_ret (e_ret (post_ret (res_1 (v := .bool false) rfl rfl) ?_))
         refine ⟨congrArg Value.bool ?_, hF.same⟩
         first | (exfalso; omega) | rw [nd7 (by omega) (hk0 (by omega)) (hx0 (by omega) (by omega))]
         all_goals first | exact (hole_f1 (by assumption)).symm | exact (hole_f2 (by assumption)).symm | exact (hole_t (by assumption) (by assumption)).symm
       ·
        refine o_off (o_val (x_pickf rfl rfl) (o_val (x_move rfl) (o_off (o_off (o_val (x_pickf rfl rfl) (o_val (x_assign rfl) (o_nil (e_seq ?_))))))))
        refine c_ret (e_ret (post_ret (res_1 (v := .bool false) rfl rfl) ?_))
        refine ⟨congrArg Value.bool ?_, hF.same⟩
        first | (exfalso; omega) | rw [nd7 (by omega) (hk0 (by omega)) (hx0 (by omega) (by omega))]
        all_goals first | exact (hole_f1 (by assumption)).symm | exact (hole_f2 (by assumption)).symm | exact (hole_t (by assumption) (by assumption)).symm
      ·
       refine c_iff rfl (c_seq (c_region (o_val (v := .bool (decide ((k : Int) = (6 : Int)))) (x_eql rfl rfl) (o_val (x_assign rfl) (o_nil (e_seq ?_))))))
       refine c_splitd (d := 90) (p := (k : Int) = (6 : Int)) rfl (fun hc7 => ?_) (fun hc7 => ?_)
       ·
        refine c_ift rfl (c_seq (c_seq (c_region (o_val (x_assign rfl) (o_nil (e_seq (c_block ?_)))))))
        refine c_loop (fun μ σ w => ∃ (i : Nat), μ = ks.length - i ∧ (i ≤ ks.length) ∧ ((ks.take i).all Lib.validD = true) ∧ ((ks.take i).Nodup) ∧ AllEq σ [(1, .pointer (some ⟨b1, 0, none⟩)), (9, .int .i64 ((i : Int)))] ∧ FR w0 [] [(b1, .cells #[.int .i64 (k), .string (bs (t)), .slice (A) (ks.length) (c), .slice (B) (xs.length) (e)] 32)] w) _ ⟨0, rfl, (Nat.zero_le _), (by simp), (by simp), ⟨rfl, rfl, trivial⟩, hF⟩ ?_
        clear hF; rintro μ σ w ⟨i, rfl, hi, hva, hnd, hs, hF⟩
        refine Cg.slots hs ?_
        clear hs; intro σ
        refine c_seq (c_seq (c_region (o_val (x_move rfl) (o_val (v := .pointer (some ⟨b1, 2, none⟩)) (x_fieldAddrO fa_32_2 rfl) (o_val (v := .slice (A) (ks.length) (c)) (x_load Tryz.isAgg22 rfl (hF.cell 0 rfl rfl)) (o_val (v := .int .i64 ((ks.length : Nat))) (x_len_slice Tryz.underlying22 rfl) (o_val (v := .bool (decide (((i : Int) : Int) < ((ks.length : Nat) : Int)))) (x_lss rfl rfl) (o_nil (e_seq ?_)))))))))
        refine c_splitd (d := 96) (p := ((i : Int) : Int) < ((ks.length : Nat) : Int)) rfl (fun hc8 => ?_) (fun hc8 => ?_)
        ·
         refine c_ift rfl (c_skip (e_seq (c_seq (c_block (c_seq (c_region (o_val (v := .pointer (some ⟨b1, 2, none⟩)) (x_fieldAddrO fa_32_2 rfl) (o_val (v := .slice (A) (ks.length) (c)) (x_load Tryz.isAgg22 rfl (hF.cell 0 rfl rfl)) (o_val (x_move rfl) ?_)))))))))
         obtain ⟨ad9, hA9, hk9, hx9⟩ := hK.str_elem (i := i) (by omega)
         refine o_val (v := .pointer (some (ad9.add (i * 1)))) (x_indexAddrA (i := (i : Int)) sl_22 rfl hA9 rfl (by omega) (by omega)) (o_val (v := .string (bs (ks[i]))) (x_load Tryz.isAgg9 rfl (hF.cell0 hk9)) ?_)
         refine o_call (utf_c ks[i] (by have := hkm i (by omega); omega) _) (x_call1 en_86 rfl rfl) ?_
         rintro _ w ⟨rfl, hE⟩
         replace hF := hF.ext hE
         clear hE
         refine o_val (x_assign rfl) (o_nil (e_seq (c_seq (c_seq (c_region (o_val (x_move rfl) (o_val (v := .bool (!(Lib.validD ks[i]))) (x_not rfl) (o_nil (e_seq ?_)))))))))
         refine c_split (d := 106) (b := !(Lib.validD ks[i])) rfl (fun hc9 => ?_) (fun hc9 => ?_)
         ·
          refine c_ift rfl (c_seq (c_region (o_val (x_assign rfl) (o_nil (e_seq ?_)))))
          refine c_ret (e_ret (post_ret (res_1 (v := .bool false) rfl rfl) ?_))
          refine ⟨congrArg Value.bool ?_, hF.same⟩
          have h6 : k = 6 := (by omega)
          subst h6
          exact (six_bad (i := i) (by omega) (nb_true (by assumption))).symm
         ·
          refine c_iff rfl (c_skip (e_seq (c_seq (c_region (o_val (x_assign rfl) (o_nil (e_seq (c_block ?_))))))))
          have hik : i < ks.length := by omega
          refine c_loop (fun μ σ w => ∃ (m : Nat), μ = i - m ∧ (m ≤ i) ∧ (∀ q (hq : q < ks.length), q < m → ks[q] ≠ ks[i]'hik) ∧ AllEq σ [(1, .pointer (some ⟨b1, 0, none⟩)), (9, .int .i64 ((i : Int))), (11, .int .i64 ((m : Int)))] ∧ FR w0 [] [(b1, .cells #[.int .i64 (k), .string (bs (t)), .slice (A) (ks.length) (c), .slice (B) (xs.length) (e)] 32)] w) _ ⟨0, rfl, (Nat.zero_le _), (fun q _ h => absurd h (by omega)), ⟨rfl, rfl, rfl, trivial⟩, hF⟩ ?_
          clear hF; rintro μ σ w ⟨m, rfl, hmi, hno, hs, hF⟩
          refine Cg.slots hs ?_
          clear hs; intro σ
          refine c_seq (c_seq (c_region (o_val (x_move rfl) (o_val (x_move rfl) (o_val (v := .bool (decide (((m : Int) : Int) < ((i : Int) : Int)))) (x_lss rfl rfl) (o_nil (e_seq ?_)))))))
          refine c_splitd (d := 109) (p := ((m : Int) : Int) < ((i : Int) : Int)) rfl (fun hc10 => ?_) (fun hc10 => ?_)
          ·
           refine c_ift rfl (c_skip (e_seq (c_seq (c_block (c_seq ?_)))))
           refine c_drawF [] (.free 0 (.free 1 (.free 2 (.free 3 (.free 4 (.free 5 (.free 6 (.free 7 (.free 8 (.free 9 (.free 10 .nil))))))))))) (by kernel_rfl) hF (by kernel_rfl) (by kernel_rfl) ?_
           clear hF; rintro w hF -
           refine ⟨fun wq => FR w0 [] [(b1, .cells #[.int .i64 (k), .string (bs (t)), .slice (A) (ks.length) (c), .slice (B) (xs.length) (e)] 32)] wq, hF, ?_⟩
           refine f_free rfl (v := .pointer (some ⟨b1, 2, none⟩)) (fun w hC => x_fieldAddrO fa_32_2 rfl) (f_free rfl (v := .slice (A) (ks.length) (c)) (fun w hC => x_load Tryz.isAgg22 rfl (hC.cell 0 rfl rfl)) (f_free rfl (v := .int .i64 ((m : Int))) (fun w hC => x_move rfl) ?_))
           obtain ⟨ad10, hA10, hk10, hx10⟩ := hK.str_elem (i := m) (by omega)
           refine f_free rfl (v := .pointer (some (ad10.add (m * 1)))) (fun w hC => x_indexAddrA (i := (m : Int)) sl_22 rfl hA10 rfl (by omega) (by omega)) (f_free rfl (v := .string (bs (ks[m]))) (fun w hC => x_load Tryz.isAgg9 rfl (hC.cell0 hk10)) (f_free rfl (v := .pointer (some ⟨b1, 2, none⟩)) (fun w hC => x_fieldAddrO fa_32_2 rfl) (f_free rfl (v := .slice (A) (ks.length) (c)) (fun w hC => x_load Tryz.isAgg22 rfl (hC.cell 0 rfl rfl)) (f_free rfl (v := .int .i64 ((i : Int))) (fun w hC => x_move rfl) ?_))))
           obtain ⟨ad11, hA11, hk11, hx11⟩ := hK.str_elem (i := i) (by omega)
           refine f_free rfl (v := .pointer (some (ad11.add (i * 1)))) (fun w hC => x_indexAddrA (i := (i : Int)) sl_22 rfl hA11 rfl (by omega) (by omega)) (f_free rfl (v := .string (bs (ks[i]))) (fun w hC => x_load Tryz.isAgg9 rfl (hC.cell0 hk11)) (f_free rfl (v := .bool (decide ((ks[m] : Str) = ks[i]))) (fun w hC => x_eqls rfl rfl) (d_nil (e_seq ?_))))
           refine c_splitd (d := 122) (p := (ks[m] : Str) = ks[i]) rfl (fun hc11 => ?_) (fun hc11 => ?_)
           ·
            refine c_ift rfl (c_seq (c_region (o_val (x_assign rfl) (o_nil (e_seq ?_)))))
            refine c_ret (e_ret (post_ret (res_1 (v := .bool false) rfl rfl) ?_))
            refine ⟨congrArg Value.bool ?_, hF.same⟩
            have h6 : k = 6 := (by omega)
            subst h6
            exact (six_dup (i := i) (m := m) (by omega) (by omega) (by assumption)).symm
           ·
            refine c_iff rfl (c_skip (e_block (e_seq (c_region (o_val (x_move rfl) (o_val (v := .int .i64 (((m + 1 : Nat) : Int))) (x_add rfl rfl (wrap_to (by omega) (by omega) (by omega))) (o_val (x_assign rfl) (o_nil ?_))))))))
            refine e_inv ⟨_, ?_, m + 1, rfl, (by omega), (fun q hq h => by rcases Nat.lt_or_ge q m with h1 | h1; exact hno q hq h1; obtain rfl : q = m := (by omega); assumption), ⟨rfl, rfl, rfl, trivial⟩, hF⟩
            omega
          ·
           refine c_iff rfl ?_
           refine c_exit (e_exit rfl ?_)
           refine e_block (e_seq (c_region (o_val (x_move rfl) (o_val (v := .int .i64 (((i + 1 : Nat) : Int))) (x_add rfl rfl (wrap_to (by omega) (by omega) (by omega))) (o_val (x_assign rfl) (o_nil ?_))))))
           refine e_inv ⟨_, ?_, i + 1, rfl, (by omega), (take_succ_all (by omega) hva (nb_false (by assumption))), (nodup_take_succ (by omega) hnd (fun hm => by obtain ⟨q, hq, hq2⟩ := List.mem_take_iff_getElem.1 hm; exact hno q (by omega) (by omega) hq2)), ⟨rfl, rfl, trivial⟩, hF⟩
           omega
        ·
         refine c_iff rfl ?_
         refine c_exit (e_exit rfl ?_)
         refine e_seq (c_seq (c_region (o_val (v := .pointer (some ⟨b1, 1, none⟩)) (x_fieldAddrO fa_32_1 rfl) (o_val (v := .string (bs (t))) (x_load Tryz.isAgg9 rfl (hF.cell 0 rfl rfl)) (o_val (v := .bool (decide ((t : Str) = []))) (x_eqls rfl rfl) (o_val (x_move rfl) ?_))))))
         refine o_splitd (d := 126) (p := (t : Str) = []) rfl (fun hg12 => ?_) (fun hg12 => ?_)
         ·
          refine o_val (v := .pointer (some ⟨b1, 2, none⟩)) (x_fieldAddrO fa_32_2 rfl) (o_val (v := .slice (A) (ks.length) (c)) (x_load Tryz.isAgg22 rfl (hF.cell 0 rfl rfl)) (o_val (v := .int .i64 ((ks.length : Nat))) (x_len_slice Tryz.underlying22 rfl) (o_val (v := .pointer (some ⟨b1, 3, none⟩)) (x_fieldAddrO fa_32_3 rfl) (o_val (v := .slice (B) (xs.length) (e)) (x_load Tryz.isAgg30 rfl (hF.cell 0 rfl rfl)) (o_val (v := .int .i64 ((xs.length : Nat))) (x_len_slice Tryz.underlying30 rfl) (o_val (v := .bool (decide (((ks.length : Nat) : Int) = ((xs.length : Nat) : Int)))) (x_eql rfl rfl) (o_val (x_pickt rfl rfl) (o_val (x_assign rfl) (o_nil (e_seq ?_))))))))))
          refine c_ret (e_ret (post_ret (res_1 (v := .bool (decide (((ks.length : Nat) : Int) = ((xs.length : Nat) : Int)))) rfl rfl) ?_))
          refine ⟨congrArg Value.bool ?_, hF.same⟩
          have h6 : k = 6 := (by omega)
          subst h6
          have hz := six_end (t := t) (ks := ks) (xs := xs) (by rw [← List.take_of_length_le (show ks.length ≤ i by omega)]; exact hnd) (by rw [← List.take_of_length_le (show ks.length ≤ i by omega)]; exact hva)
          rw [hz]
          first | (rw [decide_eq_true (show t = [] by assumption), Bool.true_and]) | (rw [decide_eq_false (show ¬ t = [] by assumption), Bool.false_and])
         ·
          refine o_off (o_off (o_off (o_off (o_off (o_off (o_off (o_val (x_pickf rfl rfl) (o_val (x_assign rfl) (o_nil (e_seq ?_))))))))))
          refine c_ret (e_ret (post_ret (res_1 (v := .bool false) rfl rfl) ?_))
          refine ⟨congrArg Value.bool ?_, hF.same⟩
          have h6 : k = 6 := (by omega)
          subst h6
          have hz := six_end (t := t) (ks := ks) (xs := xs) (by rw [← List.take_of_length_le (show ks.length ≤ i by omega)]; exact hnd) (by rw [← List.take_of_length_le (show ks.length ≤ i by omega)]; exact hva)
          rw [hz]
          first | (rw [decide_eq_true (show t = [] by assumption), Bool.true_and]) | (rw [decide_eq_false (show ¬ t = [] by assumption), Bool.false_and])
       ·
        refine c_iff rfl (c_skip (e_block (e_seq (c_seq (c_region (o_val (x_assign rfl) (o_nil (e_seq ?_))))))))
        refine c_ret (e_ret (post_ret (res_1 (v := .bool false) rfl rfl) ?_))
        refine ⟨congrArg Value.bool ?_, hF.same⟩
        exact (node_not (by omega) (by omega) (by omega) (by omega) (by omega) (by omega) (by omega)).symm
theorem all_next {α : Type} {f : α → Bool} {l : List α} {j : Nat} (h : j < l.length) (ha : (l.take j).all f = true) (hf : f l[j] = true) : (l.take (j + 1)).all f = true := by
  rw [List.take_succ_eq_append_getElem h, List.all_append, ha, List.all_cons, hf]; rfl
theorem all_fails {α : Type} {f : α → Bool} {l : List α} {j : Nat} (h : j < l.length) (hf : f l[j] = false) : l.all f = false := by
  rw [Bool.eq_false_iff]; intro ha
  have := List.all_eq_true.1 ha l[j] (List.getElem_mem h)
  rw [hf] at this; cases this
theorem hn_no1 {h : Bool} {x : Tree} (h1 : (!nodeB x) = true) : hnB h x = false := by rw [hnB, nb_true h1]; rfl
theorem hn_no2 {h : Bool} {k : Int} {t : Str} {ks : List Str} {xs : List Tree} (h1 : k = 7) (h2 : h = false) : hnB h (.node k t ks xs) = false := by rw [hnB, h2]; simp [Tree.kind, h1]
theorem hn_yes1 {h : Bool} {k : Int} {t : Str} {ks : List Str} {xs : List Tree} (h0 : nodeB (.node k t ks xs) = true) (h1 : ¬ k = 7) : hnB h (.node k t ks xs) = true := by rw [hnB, h0]; simp [Tree.kind, h1]
theorem hn_yes2 {h : Bool} {x : Tree} (h0 : nodeB x = true) (h1 : h = true) : hnB h x = true := by rw [hnB, h0, h1]; rfl
theorem allT_eq (q : Tree → Bool) (k : Int) (t : Str) (ks : List Str) (xs : List Tree) : allT q (.node k t ks xs) = (q (.node k t ks xs) && xs.all (allT q)) := by rw [allT, allTs_all]
set_option maxHeartbeats 4000000 in
set_option maxRecDepth 10000 in
theorem rnodes_step (k : Int) (t : Str) (ks : List Str) (xs : List Tree) (ih : ∀ x, x ∈ xs → NodesC x) : NodesC (.node k t ks xs) := by
 intro hsz hm h S w0 cs hR
 obtain ⟨A, c, B, e, rfl, -, -, hK, hX⟩ := hR.tree_inv
 have hR0 := hR
 have hXl := hX.slice_len
 rw [sizeT] at hsz
 refine calls_start Tryz.func48 rfl Tryz.ntmps48 (Nat.le_of_ble_eq_true rfl) (args_2 _ _) ?_
 have hF := FR.start w0 []
 refine c_seq (c_region ?_)
 refine o_box (v := .agg #[.int .i64 (k), .string (bs (t)), .slice (A) (ks.length) (c), .slice (B) (xs.length) (e)]) (cs := #[.int .i64 (k), .string (bs (t)), .slice (A) (ks.length) (c), .slice (B) (xs.length) (e)]) hF rfl rfl ?_
 clear hF; rintro b1 w hb1 hF -
 refine o_val (x_assign rfl) (o_nil (e_seq (c_seq (c_region (o_val (v := .agg #[.int .i64 (k), .string (bs (t)), .slice (A) (ks.length) (c), .slice (B) (xs.length) (e)]) (x_loadS (l := [.int .i64 (k), .string (bs (t)), .slice (A) (ks.length) (c), .slice (B) (xs.length) (e)]) Tryz.isAgg32 Tryz.sizeOf32 rfl rfl (hF.cellsAll 0 rfl)) ?_)))))
 refine o_call (rnode_c_ k t ks xs _ _ _ (hF.rep hR0) hm) (x_call1 en_69 rfl rfl) ?_
 rintro _ w ⟨rfl, hE⟩
 replace hF := hF.ext hE
 clear hE
 refine o_val (x_assign rfl) (o_nil (e_seq (c_seq (c_seq (c_region (o_val (x_move rfl) (o_val (v := .bool (!(nodeB (.node k t ks xs)))) (x_not rfl) (o_val (x_move rfl) ?_))))))))
 refine o_split (d := 12) (b := !(nodeB (.node k t ks xs))) rfl (fun hg0 => ?_) (fun hg0 => ?_)
 refine o_off (o_off (o_off (o_off (o_off (o_off (o_off (o_val (x_pickt rfl rfl) (o_nil (e_seq (c_ift rfl (c_seq (c_region (o_val (x_assign rfl) ?_)))))))))))))
 refine o_nil (e_seq ?_)
 refine c_ret (e_ret (post_ret (res_1 (v := .bool false) rfl rfl) ?_))
 refine ⟨congrArg Value.bool ?_, hF.same⟩
 rw [allT_eq]
 · first | (rw [hn_no1 (by assumption)]; rfl) | (rw [hn_no2 (by assumption) (nb_true (by assumption))]; rfl) | (rw [all_fails (f := allT (hnB h)) (l := xs) (j := j) (by omega) (nb_true (by assumption))]; simp; done) | (have hz : xs.all (allT (hnB h)) = true := (by rw [← List.take_of_length_le (show xs.length ≤ j by omega)]; exact ha); rw [hz]; first | (rw [hn_yes1 (nb_false (by assumption)) (by assumption)]; rfl) | (rw [hn_yes2 (nb_false (by assumption)) (nb_false (by assumption))]; rfl))
 refine o_val (v := .pointer (some ⟨b1, 0, none⟩)) (x_fieldAddrO fa_32_0 rfl) (o_val (v := .int .i64 (k)) (x_load Tryz.isAgg3 rfl (hF.cell 0 rfl rfl)) (o_val (v := .bool (decide ((k : Int) = (7 : Int)))) (x_eql rfl rfl) (o_val (x_move rfl) ?_)))
 refine o_splitd (d := 16) (p := (k : Int) = (7 : Int)) rfl (fun hg1 => ?_) (fun hg1 => ?_)
 refine o_val (x_move rfl) (o_val (v := .bool (!(h))) (x_not rfl) (o_val (x_pickt rfl rfl) (o_val (x_pickf rfl rfl) (o_nil (e_seq ?_)))))
 refine c_split (d := 20) (b := !(h)) rfl (fun hc0 => ?_) (fun hc0 => ?_)
 refine c_ift rfl (c_seq (c_region (o_val (x_assign rfl) (o_nil (e_seq ?_)))))
 refine c_ret (e_ret (post_ret (res_1 (v := .bool false) rfl rfl) ?_))
 refine ⟨congrArg Value.bool ?_, hF.same⟩
 rw [allT_eq]
 · first | (rw [hn_no1 (by assumption)]; rfl) | (rw [hn_no2 (by assumption) (nb_true (by assumption))]; rfl) | (rw [all_fails (f := allT (hnB h)) (l := xs) (j := j) (by omega) (nb_true (by assumption))]; simp; done) | (have hz : xs.all (allT (hnB h)) = true := (by rw [← List.take_of_length_le (show xs.length ≤ j by omega)]; exact ha); rw [hz]; first | (rw [hn_yes1 (nb_false (by assumption)) (by assumption)]; rfl) | (rw [hn_yes2 (nb_false (by assumption)) (nb_false (by assumption))]; rfl))
 refine c_iff rfl (c_skip (e_seq (c_seq (c_seq (c_region (o_val (x_assign rfl) (o_nil (e_seq (c_block ?_)))))))))
 refine c_loop (fun μ σ w => ∃ (j : Nat), μ = xs.length - j ∧ (j ≤ xs.length) ∧ ((xs.take j).all (allT (hnB h)) = true) ∧ AllEq σ [(1, .bool (h)), (2, .pointer (some ⟨b1, 0, none⟩)), (6, .int .i64 ((j : Int)))] ∧ FR w0 [] [(b1, .cells #[.int .i64 (k), .string (bs (t)), .slice (A) (ks.length) (c), .slice (B) (xs.length) (e)] 32)] w) _ ⟨0, rfl, (Nat.zero_le _), (by simp), ⟨rfl, rfl, rfl, trivial⟩, hF⟩ ?_
 clear hF; rintro μ σ w ⟨j, rfl, hj, ha, hs, hF⟩
 refine Cg.slots hs ?_
 clear hs; intro σ
 refine c_seq (c_seq (c_region (o_val (x_move rfl) (o_val (v := .pointer (some ⟨b1, 3, none⟩)) (x_fieldAddrO fa_32_3 rfl) (o_val (v := .slice (B) (xs.length) (e)) (x_load Tryz.isAgg30 rfl (hF.cell 0 rfl rfl)) (o_val (v := .int .i64 ((xs.length : Nat))) (x_len_slice Tryz.underlying30 rfl) (o_val (v := .bool (decide (((j : Int) : Int) < ((xs.length : Nat) : Int)))) (x_lss rfl rfl) (o_nil (e_seq ?_)))))))))
 refine c_splitd (d := 25) (p := ((j : Int) : Int) < ((xs.length : Nat) : Int)) rfl (fun hc1 => ?_) (fun hc1 => ?_)
 refine c_ift rfl (c_skip (e_seq (c_seq (c_block (c_seq (c_region (o_val (v := .pointer (some ⟨b1, 3, none⟩)) (x_fieldAddrO fa_32_3 rfl) (o_val (v := .slice (B) (xs.length) (e)) (x_load Tryz.isAgg30 rfl (hF.cell 0 rfl rfl)) (o_val (x_move rfl) ?_)))))))))
 obtain ⟨ad2, cs2, hA2, hl2, hk2, hx2⟩ := hX.tree_elem (i := j) (by omega)
 have ho2 := hx2.one_
 refine o_val (v := .pointer (some (ad2.add (j * 4)))) (x_indexAddrA (i := (j : Int)) sl_30 rfl hA2 rfl (by omega) (by omega)) (o_val (v := .agg (List.toArray cs2)) (x_loadS (l := cs2) Tryz.isAgg32 Tryz.sizeOf32 rfl hl2 (hF.cells0 hk2)) (o_val (x_move rfl) ?_))
 refine o_call (ih _ (List.getElem_mem _) (by have := sizeTs_mem (List.getElem_mem (l := xs) (n := j) (by omega)); omega) (by have := maxLs_mem (List.getElem_mem (l := xs) (n := j) (by omega)); rw [maxL] at hm; omega) h _ _ _ (hF.rep hx2)) (x_call2 en_48 rfl rfl rfl) ?_
 rintro _ w ⟨rfl, hE⟩
 replace hF := hF.ext hE
 clear hE
 refine o_val (x_assign rfl) (o_nil (e_seq (c_seq (c_region (o_val (x_move rfl) (o_val (v := .bool (!(allT (hnB h) xs[j]))) (x_not rfl) (o_nil (e_seq ?_))))))))
 refine c_split (d := 36) (b := !(allT (hnB h) xs[j])) rfl (fun hc2 => ?_) (fun hc2 => ?_)
 refine c_ift rfl (c_seq (c_region (o_val (x_assign rfl) (o_nil (e_seq ?_)))))
 refine c_ret (e_ret (post_ret (res_1 (v := .bool false) rfl rfl) ?_))
 refine ⟨congrArg Value.bool ?_, hF.same⟩
 rw [allT_eq]
 · first | (rw [hn_no1 (by assumption)]; rfl) | (rw [hn_no2 (by assumption) (nb_true (by assumption))]; rfl) | (rw [all_fails (f := allT (hnB h)) (l := xs) (j := j) (by omega) (nb_true (by assumption))]; simp; done) | (have hz : xs.all (allT (hnB h)) = true := (by rw [← List.take_of_length_le (show xs.length ≤ j by omega)]; exact ha); rw [hz]; first | (rw [hn_yes1 (nb_false (by assumption)) (by assumption)]; rfl) | (rw [hn_yes2 (nb_false (by assumption)) (nb_false (by assumption))]; rfl))
 refine c_iff rfl (c_skip (e_block (e_seq (c_region (o_val (x_move rfl) (o_val (v := .int .i64 (((j + 1 : Nat) : Int))) (x_add rfl rfl (wrap_to (by omega) (by omega) (by omega))) (o_val (x_assign rfl) (o_nil ?_))))))))
 refine e_inv ⟨_, ?_, j + 1, rfl, (by omega), (all_next (by omega) ha (nb_false (by assumption))), ⟨rfl, rfl, rfl, trivial⟩, hF⟩
 omega
 refine c_iff rfl ?_
 refine c_exit (e_exit rfl ?_)
 refine e_seq (c_seq (c_region (o_val (x_assign rfl) (o_nil (e_seq ?_)))))
 refine c_ret (e_ret (post_ret (res_1 (v := .bool true) rfl rfl) ?_))
 refine ⟨congrArg Value.bool ?_, hF.same⟩
 rw [allT_eq]
 · first | (rw [hn_no1 (by assumption)]; rfl) | (rw [hn_no2 (by assumption) (nb_true (by assumption))]; rfl) | (rw [all_fails (f := allT (hnB h)) (l := xs) (j := j) (by omega) (nb_true (by assumption))]; simp; done) | (have hz : xs.all (allT (hnB h)) = true := (by rw [← List.take_of_length_le (show xs.length ≤ j by omega)]; exact ha); rw [hz]; first | (rw [hn_yes1 (nb_false (by assumption)) (by assumption)]; rfl) | (rw [hn_yes2 (nb_false (by assumption)) (nb_false (by assumption))]; rfl))
 refine o_off (o_off (o_val (x_pickf rfl rfl) (o_val (x_pickf rfl rfl) (o_nil (e_seq (c_iff rfl (c_skip (e_seq (c_seq (c_seq (c_region (o_val (x_assign rfl) (o_nil ?_)))))))))))))
 refine e_seq (c_block ?_)
 refine c_loop (fun μ σ w => ∃ (j : Nat), μ = xs.length - j ∧ (j ≤ xs.length) ∧ ((xs.take j).all (allT (hnB h)) = true) ∧ AllEq σ [(1, .bool (h)), (2, .pointer (some ⟨b1, 0, none⟩)), (6, .int .i64 ((j : Int)))] ∧ FR w0 [] [(b1, .cells #[.int .i64 (k), .string (bs (t)), .slice (A) (ks.length) (c), .slice (B) (xs.length) (e)] 32)] w) _ ⟨0, rfl, (Nat.zero_le _), (by simp), ⟨rfl, rfl, rfl, trivial⟩, hF⟩ ?_
 clear hF; rintro μ σ w ⟨j, rfl, hj, ha, hs, hF⟩
 refine Cg.slots hs ?_
 clear hs; intro σ
 refine c_seq (c_seq (c_region (o_val (x_move rfl) (o_val (v := .pointer (some ⟨b1, 3, none⟩)) (x_fieldAddrO fa_32_3 rfl) (o_val (v := .slice (B) (xs.length) (e)) (x_load Tryz.isAgg30 rfl (hF.cell 0 rfl rfl)) (o_val (v := .int .i64 ((xs.length : Nat))) (x_len_slice Tryz.underlying30 rfl) (o_val (v := .bool (decide (((j : Int) : Int) < ((xs.length : Nat) : Int)))) (x_lss rfl rfl) (o_nil (e_seq ?_)))))))))
 refine c_splitd (d := 25) (p := ((j : Int) : Int) < ((xs.length : Nat) : Int)) rfl (fun hc1 => ?_) (fun hc1 => ?_)
 refine c_ift rfl (c_skip (e_seq (c_seq (c_block (c_seq (c_region (o_val (v := .pointer (some ⟨b1, 3, none⟩)) (x_fieldAddrO fa_32_3 rfl) (o_val (v := .slice (B) (xs.length) (e)) (x_load Tryz.isAgg30 rfl (hF.cell 0 rfl rfl)) (o_val (x_move rfl) ?_)))))))))
 obtain ⟨ad3, cs3, hA3, hl3, hk3, hx3⟩ := hX.tree_elem (i := j) (by omega)
 have ho3 := hx3.one_
 refine o_val (v := .pointer (some (ad3.add (j * 4)))) (x_indexAddrA (i := (j : Int)) sl_30 rfl hA3 rfl (by omega) (by omega)) (o_val (v := .agg (List.toArray cs3)) (x_loadS (l := cs3) Tryz.isAgg32 Tryz.sizeOf32 rfl hl3 (hF.cells0 hk3)) (o_val (x_move rfl) ?_))
 refine o_call (ih _ (List.getElem_mem _) (by have := sizeTs_mem (List.getElem_mem (l := xs) (n := j) (by omega)); omega) (by have := maxLs_mem (List.getElem_mem (l := xs) (n := j) (by omega)); rw [maxL] at hm; omega) h _ _ _ (hF.rep hx3)) (x_call2 en_48 rfl rfl rfl) ?_
 rintro _ w ⟨rfl, hE⟩
 replace hF := hF.ext hE
 clear hE
 refine o_val (x_assign rfl) (o_nil (e_seq (c_seq (c_region (o_val (x_move rfl) (o_val (v := .bool (!(allT (hnB h) xs[j]))) (x_not rfl) (o_nil (e_seq ?_))))))))
 refine c_split (d := 36) (b := !(allT (hnB h) xs[j])) rfl (fun hc2 => ?_) (fun hc2 => ?_)
 refine c_ift rfl (c_seq (c_region (o_val (x_assign rfl) (o_nil (e_seq ?_)))))
 refine c_ret (e_ret (post_ret (res_1 (v := .bool false) rfl rfl) ?_))
 refine ⟨congrArg Value.bool ?_, hF.same⟩
 rw [allT_eq]
 · first | (rw [hn_no1 (by assumption)]; rfl) | (rw [hn_no2 (by assumption) (nb_true (by assumption))]; rfl) | (rw [all_fails (f := allT (hnB h)) (l := xs) (j := j) (by omega) (nb_true (by assumption))]; simp; done) | (have hz : xs.all (allT (hnB h)) = true := (by rw [← List.take_of_length_le (show xs.length ≤ j by omega)]; exact ha); rw [hz]; first | (rw [hn_yes1 (nb_false (by assumption)) (by assumption)]; rfl) | (rw [hn_yes2 (nb_false (by assumption)) (nb_false (by assumption))]; rfl))
 refine c_iff rfl (c_skip (e_block (e_seq (c_region (o_val (x_move rfl) (o_val (v := .int .i64 (((j + 1 : Nat) : Int))) (x_add rfl rfl (wrap_to (by omega) (by omega) (by omega))) (o_val (x_assign rfl) (o_nil ?_))))))))
 refine e_inv ⟨_, ?_, j + 1, rfl, (by omega), (all_next (by omega) ha (nb_false (by assumption))), ⟨rfl, rfl, rfl, trivial⟩, hF⟩
 omega
 refine c_iff rfl ?_
 refine c_exit (e_exit rfl ?_)
 refine e_seq (c_seq (c_region (o_val (x_assign rfl) (o_nil (e_seq ?_)))))
 refine c_ret (e_ret (post_ret (res_1 (v := .bool true) rfl rfl) ?_))
 refine ⟨congrArg Value.bool ?_, hF.same⟩
 rw [allT_eq]
 · first | (rw [hn_no1 (by assumption)]; rfl) | (rw [hn_no2 (by assumption) (nb_true (by assumption))]; rfl) | (rw [all_fails (f := allT (hnB h)) (l := xs) (j := j) (by omega) (nb_true (by assumption))]; simp; done) | (have hz : xs.all (allT (hnB h)) = true := (by rw [← List.take_of_length_le (show xs.length ≤ j by omega)]; exact ha); rw [hz]; first | (rw [hn_yes1 (nb_false (by assumption)) (by assumption)]; rfl) | (rw [hn_yes2 (nb_false (by assumption)) (nb_false (by assumption))]; rfl))
theorem rnodesT_c (x : Tree) : NodesC x := Tree.ind rnodes_step x
set_option maxHeartbeats 1000000 in
set_option maxRecDepth 10000 in
theorem rright_t (x : Tree) (hsz : sizeT x ≤ 1000000000) (hm : maxL x ≤ 1073741824) (S : Nat → Prop) (w0 : World) (cs : List Value) (hR : Rep S w0 (treeD x) cs) : Calls Tryz.prog 30 #[.agg cs.toArray] w0 (Ret fun v w' => v = .bool (rightB x) ∧ Same [] w0 w') := by
 have hl : cs.length = 4 := hR.length.trans (size_treeD x)
 have ho := hR.one_
 refine calls_start Tryz.func30 rfl Tryz.ntmps30 (Nat.le_of_ble_eq_true rfl) (args_1 _) ?_
 have hF := FR.start w0 []
 refine c_seq (c_region ?_)
 refine o_box (v := .agg (List.toArray cs)) (cs := (List.toArray cs)) hF rfl rfl ?_
 clear hF; rintro b1 w hb1 hF -
 refine o_val (x_assign rfl) (o_nil (e_seq (c_seq (c_region (o_val (v := .agg (List.toArray cs)) (x_loadS (l := cs) Tryz.isAgg32 Tryz.sizeOf32 rfl hl (hF.cellsAll 0 rfl)) ?_)))))
 refine o_call (rsizeT_c x hsz _ _ cs (hF.rep hR)) (x_call1 en_46 rfl rfl) ?_
 rintro _ w ⟨rfl, hE⟩
 replace hF := hF.ext hE
 clear hE
 refine o_val (v := .bool (decide (((sizeT x : Nat) : Int) ≤ (4096 : Int)))) (x_leq rfl rfl) (o_val (x_move rfl) ?_)
 refine o_splitd (d := 6) (p := ((sizeT x : Nat) : Int) ≤ (4096 : Int)) rfl (fun hg0 => ?_) (fun hg0 => ?_)
 refine o_val (v := .agg (List.toArray cs)) (x_loadS (l := cs) Tryz.isAgg32 Tryz.sizeOf32 rfl hl (hF.cellsAll 0 rfl)) ?_
 refine o_call (rdepthT_c x hsz _ _ cs (hF.rep hR)) (x_call1 en_47 rfl rfl) ?_
 rintro _ w ⟨rfl, hE⟩
 replace hF := hF.ext hE
 clear hE
 refine o_val (v := .bool (decide (((depthT x : Nat) : Int) ≤ (32 : Int)))) (x_leq rfl rfl) (o_val (x_pickt rfl rfl) (o_val (x_move rfl) ?_))
 refine o_splitd (d := 11) (p := ((depthT x : Nat) : Int) ≤ (32 : Int)) rfl (fun hg1 => ?_) (fun hg1 => ?_)
 refine o_val (v := .agg (List.toArray cs)) (x_loadS (l := cs) Tryz.isAgg32 Tryz.sizeOf32 rfl hl (hF.cellsAll 0 rfl)) ?_
 refine o_call ((by have h := rnodesT_c x hsz hm false _ _ cs (hF.rep hR); rw [hn_false] at h; exact h)) (x_call2 en_48 rfl rfl rfl) ?_
 rintro _ w ⟨rfl, hE⟩
 replace hF := hF.ext hE
 clear hE
 refine o_val (x_pickt rfl rfl) (o_val (x_assign rfl) (o_nil (e_seq ?_)))
 refine c_ret (e_ret (post_ret (res_1 (v := .bool (allT rnodeB x)) rfl rfl) ?_))
 refine ⟨congrArg Value.bool ?_, hF.same⟩
 unfold rightB sizedB
 · first | (rw [decide_eq_false (show ¬ sizeT x ≤ 4096 by omega)]; simp; done) | (rw [decide_eq_false (show ¬ depthT x ≤ 32 by omega)]; simp; done) | (rw [decide_eq_true (show sizeT x ≤ 4096 by omega), decide_eq_true (show depthT x ≤ 32 by omega)]; simp; done) | simp_all
 refine o_off (o_off (o_val (x_pickf rfl rfl) (o_val (x_assign rfl) (o_nil (e_seq ?_)))))
 refine c_ret (e_ret (post_ret (res_1 (v := .bool false) rfl rfl) ?_))
 refine ⟨congrArg Value.bool ?_, hF.same⟩
 unfold rightB sizedB
 · first | (rw [decide_eq_false (show ¬ sizeT x ≤ 4096 by omega)]; simp; done) | (rw [decide_eq_false (show ¬ depthT x ≤ 32 by omega)]; simp; done) | (rw [decide_eq_true (show sizeT x ≤ 4096 by omega), decide_eq_true (show depthT x ≤ 32 by omega)]; simp; done) | simp_all
 refine o_off (o_off (o_off (o_val (x_pickf rfl rfl) (o_val (x_move rfl) (o_off (o_off (o_val (x_pickf rfl rfl) (o_val (x_assign rfl) (o_nil (e_seq ?_))))))))))
 refine c_ret (e_ret (post_ret (res_1 (v := .bool false) rfl rfl) ?_))
 refine ⟨congrArg Value.bool ?_, hF.same⟩
 unfold rightB sizedB
 · first | (rw [decide_eq_false (show ¬ sizeT x ≤ 4096 by omega)]; simp; done) | (rw [decide_eq_false (show ¬ depthT x ≤ 32 by omega)]; simp; done) | (rw [decide_eq_true (show sizeT x ≤ 4096 by omega), decide_eq_true (show depthT x ≤ 32 by omega)]; simp; done) | simp_all
set_option maxHeartbeats 1000000 in
set_option maxRecDepth 10000 in
theorem ropen_t (x : Tree) (hsz : sizeT x ≤ 1000000000) (hm : maxL x ≤ 1073741824) (S : Nat → Prop) (w0 : World) (cs : List Value) (hR : Rep S w0 (treeD x) cs) : Calls Tryz.prog 49 #[.agg cs.toArray] w0 (Ret fun v w' => v = .bool (openB x) ∧ Same [] w0 w') := by
 have hl : cs.length = 4 := hR.length.trans (size_treeD x)
 have ho := hR.one_
 refine calls_start Tryz.func49 rfl Tryz.ntmps49 (Nat.le_of_ble_eq_true rfl) (args_1 _) ?_
 have hF := FR.start w0 []
 refine c_seq (c_region ?_)
 refine o_box (v := .agg (List.toArray cs)) (cs := (List.toArray cs)) hF rfl rfl ?_
 clear hF; rintro b1 w hb1 hF -
 refine o_val (x_assign rfl) (o_nil (e_seq (c_seq (c_region (o_val (v := .agg (List.toArray cs)) (x_loadS (l := cs) Tryz.isAgg32 Tryz.sizeOf32 rfl hl (hF.cellsAll 0 rfl)) ?_)))))
 refine o_call (rsizeT_c x hsz _ _ cs (hF.rep hR)) (x_call1 en_46 rfl rfl) ?_
 rintro _ w ⟨rfl, hE⟩
 replace hF := hF.ext hE
 clear hE
 refine o_val (v := .bool (decide (((sizeT x : Nat) : Int) ≤ (4096 : Int)))) (x_leq rfl rfl) (o_val (x_move rfl) ?_)
 refine o_splitd (d := 6) (p := ((sizeT x : Nat) : Int) ≤ (4096 : Int)) rfl (fun hg0 => ?_) (fun hg0 => ?_)
 refine o_val (v := .agg (List.toArray cs)) (x_loadS (l := cs) Tryz.isAgg32 Tryz.sizeOf32 rfl hl (hF.cellsAll 0 rfl)) ?_
 refine o_call (rdepthT_c x hsz _ _ cs (hF.rep hR)) (x_call1 en_47 rfl rfl) ?_
 rintro _ w ⟨rfl, hE⟩
 replace hF := hF.ext hE
 clear hE
 refine o_val (v := .bool (decide (((depthT x : Nat) : Int) ≤ (32 : Int)))) (x_leq rfl rfl) (o_val (x_pickt rfl rfl) (o_val (x_move rfl) ?_))
 refine o_splitd (d := 11) (p := ((depthT x : Nat) : Int) ≤ (32 : Int)) rfl (fun hg1 => ?_) (fun hg1 => ?_)
 refine o_val (v := .agg (List.toArray cs)) (x_loadS (l := cs) Tryz.isAgg32 Tryz.sizeOf32 rfl hl (hF.cellsAll 0 rfl)) ?_
 refine o_call ((by have h := rnodesT_c x hsz hm true _ _ cs (hF.rep hR); rw [hn_true] at h; exact h)) (x_call2 en_48 rfl rfl rfl) ?_
 rintro _ w ⟨rfl, hE⟩
 replace hF := hF.ext hE
 clear hE
 refine o_val (x_pickt rfl rfl) (o_val (x_assign rfl) (o_nil (e_seq ?_)))
 refine c_ret (e_ret (post_ret (res_1 (v := .bool (allT nodeB x)) rfl rfl) ?_))
 refine ⟨congrArg Value.bool ?_, hF.same⟩
 unfold openB sizedB
 · first | (rw [decide_eq_false (show ¬ sizeT x ≤ 4096 by omega)]; simp; done) | (rw [decide_eq_false (show ¬ depthT x ≤ 32 by omega)]; simp; done) | (rw [decide_eq_true (show sizeT x ≤ 4096 by omega), decide_eq_true (show depthT x ≤ 32 by omega)]; simp; done) | simp_all
 refine o_off (o_off (o_val (x_pickf rfl rfl) (o_val (x_assign rfl) (o_nil (e_seq ?_)))))
 refine c_ret (e_ret (post_ret (res_1 (v := .bool false) rfl rfl) ?_))
 refine ⟨congrArg Value.bool ?_, hF.same⟩
 unfold openB sizedB
 · first | (rw [decide_eq_false (show ¬ sizeT x ≤ 4096 by omega)]; simp; done) | (rw [decide_eq_false (show ¬ depthT x ≤ 32 by omega)]; simp; done) | (rw [decide_eq_true (show sizeT x ≤ 4096 by omega), decide_eq_true (show depthT x ≤ 32 by omega)]; simp; done) | simp_all
 refine o_off (o_off (o_off (o_val (x_pickf rfl rfl) (o_val (x_move rfl) (o_off (o_off (o_val (x_pickf rfl rfl) (o_val (x_assign rfl) (o_nil (e_seq ?_))))))))))
 refine c_ret (e_ret (post_ret (res_1 (v := .bool false) rfl rfl) ?_))
 refine ⟨congrArg Value.bool ?_, hF.same⟩
 unfold openB sizedB
 · first | (rw [decide_eq_false (show ¬ sizeT x ≤ 4096 by omega)]; simp; done) | (rw [decide_eq_false (show ¬ depthT x ≤ 32 by omega)]; simp; done) | (rw [decide_eq_true (show sizeT x ≤ 4096 by omega), decide_eq_true (show depthT x ≤ 32 by omega)]; simp; done) | simp_all
def atZ (ks : List Str) (key : Str) : Int := if key ∈ ks then ((ks.idxOf key : Nat) : Int) else -1
theorem idx_at : ∀ {ks : List Str} {key : Str} {j : Nat} (h : j < ks.length), (∀ x ∈ ks.take j, x ≠ key) → ks[j] = key → ks.idxOf key = j
  | k :: ks, key, 0, _, _, he => by
    have he' : k = key := he
    rw [List.idxOf_cons, he']; simp
  | k :: ks, key, j + 1, h, hn, he => by
    have h0 : k ≠ key := hn k (by simp)
    rw [List.idxOf_cons]
    have hb : (k == key) = false := by simpa using h0
    rw [hb]
    simp only [cond_false]
    rw [idx_at (ks := ks) (j := j) (by simpa using h) (fun x hx => hn x (by simp [hx])) (by simpa using he)]
theorem at_found {ks : List Str} {key : Str} {j : Nat} (h : j < ks.length) (hn : ∀ x ∈ ks.take j, x ≠ key) (he : ks[j] = key) : atZ ks key = (j : Int) := by
  rw [atZ, if_pos (by rw [← he]; exact List.getElem_mem h), idx_at h hn he]
theorem at_none {ks : List Str} {key : Str} (hn : ∀ x ∈ ks, x ≠ key) : atZ ks key = -1 := by
  rw [atZ, if_neg (fun h => hn key h rfl)]
theorem no_next {ks : List Str} {key : Str} {j : Nat} (h : j < ks.length) (hn : ∀ x ∈ ks.take j, x ≠ key) (he : ks[j] ≠ key) : ∀ x ∈ ks.take (j + 1), x ≠ key := by
  rw [List.take_succ_eq_append_getElem h]
  intro x hx
  rcases List.mem_append.1 hx with hx | hx
  · exact hn x hx
  · rw [List.mem_singleton.1 hx]; exact he
set_option maxHeartbeats 1000000 in
set_option maxRecDepth 10000 in
theorem at_c (k : Int) (t : Str) (ks : List Str) (xs : List Tree) (key : Str) (S : Nat → Prop) (w0 : World) (cs : List Value) (hR : Rep S w0 (treeD (.node k t ks xs)) cs) : Calls Tryz.prog 50 #[.agg cs.toArray, .string (bs key)] w0 (Ret fun v w' => v = .int .i64 (atZ ks key) ∧ Same [] w0 w') := by
 obtain ⟨A, c, B, e, rfl, -, -, hK, hX⟩ := hR.tree_inv
 have hKl := hK.slice_len
 refine calls_start Tryz.func50 rfl Tryz.ntmps50 (Nat.le_of_ble_eq_true rfl) (args_2 _ _) ?_
 have hF := FR.start w0 []
 refine c_seq (c_region ?_)
 refine o_box (v := .agg #[.int .i64 (k), .string (bs (t)), .slice (A) (ks.length) (c), .slice (B) (xs.length) (e)]) (cs := #[.int .i64 (k), .string (bs (t)), .slice (A) (ks.length) (c), .slice (B) (xs.length) (e)]) hF rfl rfl ?_
 clear hF; rintro b1 w hb1 hF -
 refine o_val (x_assign rfl) (o_nil (e_seq (c_seq (c_seq (c_region (o_val (x_assign rfl) (o_nil (e_seq (c_block ?_)))))))))
 refine c_loop (fun μ σ w => ∃ (j : Nat), μ = ks.length - j ∧ (j ≤ ks.length) ∧ (∀ x ∈ ks.take j, x ≠ key) ∧ AllEq σ [(1, .string (bs (key))), (2, .pointer (some ⟨b1, 0, none⟩)), (5, .int .i64 ((j : Int)))] ∧ FR w0 [] [(b1, .cells #[.int .i64 (k), .string (bs (t)), .slice (A) (ks.length) (c), .slice (B) (xs.length) (e)] 32)] w) _ ⟨0, rfl, (Nat.zero_le _), (by simp), ⟨rfl, rfl, rfl, trivial⟩, hF⟩ ?_
 clear hF; rintro μ σ w ⟨j, rfl, hj, hno, hs, hF⟩
 refine Cg.slots hs ?_
 clear hs; intro σ
 refine c_seq (c_seq (c_region (o_val (x_move rfl) (o_val (v := .pointer (some ⟨b1, 2, none⟩)) (x_fieldAddrO fa_32_2 rfl) (o_val (v := .slice (A) (ks.length) (c)) (x_load Tryz.isAgg22 rfl (hF.cell 0 rfl rfl)) (o_val (v := .int .i64 ((ks.length : Nat))) (x_len_slice Tryz.underlying22 rfl) (o_val (v := .bool (decide (((j : Int) : Int) < ((ks.length : Nat) : Int)))) (x_lss rfl rfl) (o_nil (e_seq ?_)))))))))
 refine c_splitd (d := 10) (p := ((j : Int) : Int) < ((ks.length : Nat) : Int)) rfl (fun hc0 => ?_) (fun hc0 => ?_)
 refine c_ift rfl (c_skip (e_seq (c_seq (c_block (c_seq (c_region (o_val (v := .pointer (some ⟨b1, 2, none⟩)) (x_fieldAddrO fa_32_2 rfl) (o_val (v := .slice (A) (ks.length) (c)) (x_load Tryz.isAgg22 rfl (hF.cell 0 rfl rfl)) (o_val (x_move rfl) ?_)))))))))
 obtain ⟨ad0, hA0, hk0, hx0⟩ := hK.str_elem (i := j) (by omega)
 refine o_val (v := .pointer (some (ad0.add (j * 1)))) (x_indexAddrA (i := (j : Int)) sl_22 rfl hA0 rfl (by omega) (by omega)) (o_val (v := .string (bs (ks[j]))) (x_load Tryz.isAgg9 rfl (hF.cell0 hk0)) (o_val (x_move rfl) (o_val (v := .bool (decide ((ks[j] : Str) = key))) (x_eqls rfl rfl) (o_nil (e_seq ?_)))))
 refine c_splitd (d := 19) (p := (ks[j] : Str) = key) rfl (fun hc1 => ?_) (fun hc1 => ?_)
 refine c_ift rfl (c_seq (c_region (o_val (x_move rfl) (o_val (x_assign rfl) (o_nil (e_seq ?_))))))
 refine c_ret (e_ret (post_ret (res_1 (v := .int .i64 ((j : Int))) rfl rfl) ?_))
 exact ⟨by rw [at_found (by omega) hno (by assumption)], hF.same⟩
 refine c_iff rfl (c_skip (e_block (e_seq (c_region (o_val (x_move rfl) (o_val (v := .int .i64 (((j + 1 : Nat) : Int))) (x_add rfl rfl (wrap_to (by omega) (by omega) (by omega))) (o_val (x_assign rfl) (o_nil ?_))))))))
 refine e_inv ⟨_, ?_, j + 1, rfl, (by omega), (no_next (by omega) hno (by assumption)), ⟨rfl, rfl, rfl, trivial⟩, hF⟩
 omega
 refine c_iff rfl ?_
 refine c_exit (e_exit rfl ?_)
 refine e_seq (c_seq (c_region (o_val (x_assign rfl) (o_nil (e_seq ?_)))))
 refine c_ret (e_ret (post_ret (res_1 (v := .int .i64 ((-1))) rfl rfl) ?_))
 exact ⟨by rw [at_none (by rw [List.take_of_length_le (by omega)] at hno; exact hno)], hF.same⟩
end Go.Scarf
