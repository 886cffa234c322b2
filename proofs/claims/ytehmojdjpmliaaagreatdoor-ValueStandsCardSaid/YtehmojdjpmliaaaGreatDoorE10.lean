/- A part of the proof. -/
import Derived.Test.YtehmojdjpmliaaaGreatDoorE9
set_option linter.all false
namespace Go.Scarf
open Go.RowKit Go.Proofs
theorem sameL_all : ∀ {xs ys : List Tree}, xs.length = ys.length → (sameL xs ys = true ↔ ∀ i (h : i < xs.length) (h2 : i < ys.length), sameT xs[i] ys[i] = true)
  | [], [], _ => by simp [sameL]
  | x :: xs, y :: ys, h => by
    rw [sameL, Bool.and_eq_true, sameL_all (xs := xs) (ys := ys) (by simpa using h)]
    constructor
    · rintro ⟨h1, h2⟩ i hi hi2
      cases i with
      | zero => exact h1
      | succ i => exact h2 i (by simpa using hi) (by simpa using hi2)
    · intro h1
      exact ⟨h1 0 (by simp) (by simp), fun i hi hi2 => h1 (i + 1) (by simpa using hi) (by simpa using hi2)⟩
def Mate (k : Int) (ks ks' : List Str) (xs ys : List Tree) (i : Nat) (y : Tree) : Prop := (k ≠ 6 ∧ ys[i]? = some y) ∨ (k = 6 ∧ ∃ h : i < ks.length, lookT ks' ys ks[i] = some y)
theorem Mate.det {k : Int} {ks ks' : List Str} {xs ys : List Tree} {i : Nat} {y z : Tree} (h : Mate k ks ks' xs ys i y) (h2 : Mate k ks ks' xs ys i z) : y = z := by
  rcases h with ⟨a, b⟩ | ⟨a, c, b⟩ <;> rcases h2 with ⟨a2, b2⟩ | ⟨a2, c2, b2⟩
  · rw [b] at b2; exact Option.some.inj b2
  · exact absurd a2 a
  · exact absurd a a2
  · rw [b] at b2; exact Option.some.inj b2
theorem same_all_ {k : Int} {t : Str} {ks ks' : List Str} {xs ys : List Tree} (hl : xs.length = ys.length) (hk : k = 6 → ks.length = xs.length ∧ ks'.length = ys.length) :
    sameT (.node k t ks xs) (.node k t ks' ys) = true ↔ ∀ i (h : i < xs.length), ∃ y, Mate k ks ks' xs ys i y ∧ sameT xs[i] y = true := by
  rw [sameT, decide_eq_true rfl, decide_eq_true rfl, decide_eq_true hl, Bool.true_and, Bool.true_and, Bool.true_and]
  by_cases h6 : k = 6
  · obtain ⟨h1, h2⟩ := hk h6
    rw [if_neg (by simpa using h6), decide_eq_true (by omega), Bool.true_and, sameM_iff' xs ks ks' ys h1]
    constructor
    · intro h i hi
      obtain ⟨y, hy, hs⟩ := h i (by omega)
      exact ⟨y, .inr ⟨h6, by omega, hy⟩, hs⟩
    · intro h i hi
      obtain ⟨y, hy, hs⟩ := h i (by omega)
      rcases hy with ⟨a, _⟩ | ⟨_, _, b⟩
      · exact absurd h6 a
      · exact ⟨y, b, hs⟩
  · rw [if_pos h6, sameL_all hl]
    constructor
    · intro h i hi
      exact ⟨ys[i]'(by omega), .inl ⟨h6, List.getElem?_eq_getElem (by omega)⟩, h i hi (by omega)⟩
    · intro h i hi hi2
      obtain ⟨y, hy, hs⟩ := h i hi
      rcases hy with ⟨_, b⟩ | ⟨a, _⟩
      · rw [List.getElem?_eq_getElem hi2] at b
        have e := Option.some.inj b
        rw [e]; exact hs
      · exact absurd a h6
theorem same_head {k k' : Int} {t t' : Str} {ks ks' : List Str} {xs ys : List Tree} (h : k ≠ k' ∨ t ≠ t' ∨ ((xs.length : Nat) : Int) ≠ ((ys.length : Nat) : Int)) : sameT (.node k t ks xs) (.node k' t' ks' ys) = false := by
  rw [sameT]
  rcases h with h | h | h
  · rw [decide_eq_false h]; rfl
  · rw [decide_eq_false h, Bool.and_false]; rfl
  · rw [decide_eq_false (by omega : ¬ xs.length = ys.length), Bool.and_false]; rfl
theorem same_fails {k : Int} {t : Str} {ks ks' : List Str} {xs ys : List Tree} (hl : xs.length = ys.length) (hk : k = 6 → ks.length = xs.length ∧ ks'.length = ys.length) {i : Nat} (h : i < xs.length) (hf : ∀ y, Mate k ks ks' xs ys i y → sameT xs[i] y = false) : sameT (.node k t ks xs) (.node k t ks' ys) = false := by
  rw [Bool.eq_false_iff]
  intro hh
  obtain ⟨y, hy, hs⟩ := (same_all_ hl hk).1 hh i h
  rw [hf y hy] at hs; cases hs
def RSameC (x : Tree) : Prop := ∀ y S S' w0 cs ct, Rep S w0 (treeD x) cs → Rep S' w0 (treeD y) ct → allT nodeB x = true → allT nodeB y = true → Calls Tryz.prog 71 #[.agg cs.toArray, .agg ct.toArray] w0 (Ret fun v w' => v = .bool (sameT x y) ∧ Same [] w0 w')
set_option maxHeartbeats 4000000 in
set_option maxRecDepth 10000 in
theorem rsame_step (k : Int) (t : Str) (ks : List Str) (xs : List Tree) (ih : ∀ x, x ∈ xs → RSameC x) : RSameC (.node k t ks xs) := by
 rintro ⟨k', t', ks', ys⟩ S S' w0 cs ct hR hR' hn hn'
 obtain ⟨A, c, B, e, rfl, -, -, hK, hX⟩ := hR.tree_inv
 obtain ⟨A', c', B', e', rfl, -, -, -, hY⟩ := hR'.tree_inv
 have hKl := hK.slice_len
 have hXl := hX.slice_len
 have hYl := hY.slice_len
 have hnx := allT_node hn
 have hny := allT_node hn'
 refine calls_start Tryz.func71 rfl Tryz.ntmps71 (Nat.le_of_ble_eq_true rfl) (args_2 _ _) ?_
 have hF := FR.start w0 []
 refine c_seq (c_region ?_)
 refine o_box (v := .agg #[.int .i64 (k), .string (bs (t)), .slice (A) (ks.length) (c), .slice (B) (xs.length) (e)]) (cs := #[.int .i64 (k), .string (bs (t)), .slice (A) (ks.length) (c), .slice (B) (xs.length) (e)]) hF rfl rfl ?_
 clear hF; rintro b1 w hb1 hF -
 refine o_box (v := .agg #[.int .i64 (k'), .string (bs (t')), .slice (A') (ks'.length) (c'), .slice (B') (ys.length) (e')]) (cs := #[.int .i64 (k'), .string (bs (t')), .slice (A') (ks'.length) (c'), .slice (B') (ys.length) (e')]) hF rfl rfl ?_
 clear hF; rintro b2 w hb2 hF -
 refine o_val (v := .bool false) (x_assign rfl) (o_nil (e_seq (c_seq (c_seq (c_region (o_val (v := .pointer (some ⟨b1, 0, none⟩)) (x_fieldAddrO fa_25_0 rfl) (o_val (v := .int .i64 (k)) (x_load Tryz.isAgg3 rfl (hF.cell 1 rfl rfl)) (o_val (v := .pointer (some ⟨b2, 0, none⟩)) (x_fieldAddrO fa_25_0 rfl) (o_val (v := .int .i64 (k')) (x_load Tryz.isAgg3 rfl (hF.cell 0 rfl rfl)) (o_val (v := .bool (decide ((k : Int) ≠ (k' : Int)))) (x_neq rfl rfl) (o_val (v := .bool (decide ((k : Int) ≠ (k' : Int)))) (x_move rfl) ?_)))))))))))
 refine o_splitd (d := 13) (p := (k : Int) ≠ (k' : Int)) rfl (fun hg0 => ?_) (fun hg0 => ?_)
 refine o_off (o_off (o_off (o_off (o_off (o_val (v := .bool true) (x_pickt rfl rfl) (o_val (v := .bool true) (x_move rfl) (o_off (o_off (o_off (o_off (o_off (o_off (o_off ?_)))))))))))))
 refine o_val (v := .bool true) (x_pickt rfl rfl) (o_nil (e_seq (c_ift rfl (c_seq (c_region (o_val (v := .bool false) (x_assign rfl) (o_nil (e_seq ?_))))))))
 refine c_ret (e_ret (post_ret (res_1 (v := .bool false) rfl rfl) ?_))
 exact ⟨by rw [same_head (by first | exact .inl (by assumption) | exact .inr (.inl (by assumption)) | exact .inr (.inr (by assumption)))], hF.same⟩
 refine o_val (v := .pointer (some ⟨b1, 1, none⟩)) (x_fieldAddrO fa_25_1 rfl) (o_val (v := .string (bs (t))) (x_load Tryz.isAgg9 rfl (hF.cell 1 rfl rfl)) (o_val (v := .pointer (some ⟨b2, 1, none⟩)) (x_fieldAddrO fa_25_1 rfl) (o_val (v := .string (bs (t'))) (x_load Tryz.isAgg9 rfl (hF.cell 0 rfl rfl)) (o_val (v := .bool (decide ((t : Str) ≠ t'))) (x_neqs rfl rfl) (o_val (v := .bool (decide ((t : Str) ≠ t'))) (x_pickf rfl rfl) (o_val (v := .bool (decide ((t : Str) ≠ t'))) (x_move rfl) ?_))))))
 refine o_splitd (d := 20) (p := (t : Str) ≠ t') rfl (fun hg1 => ?_) (fun hg1 => ?_)
 refine o_off (o_off (o_off (o_off (o_off (o_off (o_off (o_val (v := .bool true) (x_pickt rfl rfl) (o_nil (e_seq (c_ift rfl (c_seq (c_region (o_val (v := .bool false) (x_assign rfl) ?_)))))))))))))
 refine o_nil (e_seq ?_)
 refine c_ret (e_ret (post_ret (res_1 (v := .bool false) rfl rfl) ?_))
 exact ⟨by rw [same_head (by first | exact .inl (by assumption) | exact .inr (.inl (by assumption)) | exact .inr (.inr (by assumption)))], hF.same⟩
 refine o_val (v := .pointer (some ⟨b1, 3, none⟩)) (x_fieldAddrO fa_25_3 rfl) (o_val (v := .slice (B) (xs.length) (e)) (x_load Tryz.isAgg23 rfl (hF.cell 1 rfl rfl)) (o_val (v := .int .i64 ((xs.length : Nat))) (x_len_slice Tryz.underlying23 rfl) (o_val (v := .pointer (some ⟨b2, 3, none⟩)) (x_fieldAddrO fa_25_3 rfl) (o_val (v := .slice (B') (ys.length) (e')) (x_load Tryz.isAgg23 rfl (hF.cell 0 rfl rfl)) (o_val (v := .int .i64 ((ys.length : Nat))) (x_len_slice Tryz.underlying23 rfl) (o_val (v := .bool (decide (((xs.length : Nat) : Int) ≠ ((ys.length : Nat) : Int)))) (x_neq rfl rfl) (o_val (v := .bool (decide (((xs.length : Nat) : Int) ≠ ((ys.length : Nat) : Int)))) (x_pickf rfl rfl) (o_nil (e_seq ?_)))))))))
 refine c_splitd (d := 28) (p := ((xs.length : Nat) : Int) ≠ ((ys.length : Nat) : Int)) rfl (fun hc0 => ?_) (fun hc0 => ?_)
 refine c_ift rfl (c_seq (c_region (o_val (v := .bool false) (x_assign rfl) (o_nil (e_seq ?_)))))
 refine c_ret (e_ret (post_ret (res_1 (v := .bool false) rfl rfl) ?_))
 exact ⟨by rw [same_head (by first | exact .inl (by assumption) | exact .inr (.inl (by assumption)) | exact .inr (.inr (by assumption)))], hF.same⟩
 refine c_iff rfl (c_skip (e_seq (c_seq (c_seq (c_region (o_val (v := .int .i64 (0)) (x_assign rfl) (o_nil (e_seq (c_block ?_)))))))))
 have hk_ : k' = k := by omega
 have ht_ : t' = t := (Classical.byContradiction fun h => absurd h (by assumption) : t = t').symm
 have hll : xs.length = ys.length := by omega
 have hlk : k = 6 → ks.length = xs.length ∧ ks'.length = ys.length := fun h => ⟨(node6 (h ▸ hnx.1)).2, (node6 ((hk_.trans h) ▸ hny.1)).2⟩
 refine c_loop (fun μ σ w => ∃ (j : Nat), μ = xs.length - j ∧ (j ≤ xs.length) ∧ (∀ i (h : i < xs.length), i < j → ∃ y, Mate k ks ks' xs ys i y ∧ sameT xs[i] y = true) ∧ AllEq σ [(2, .pointer (some ⟨b1, 0, none⟩)), (3, .pointer (some ⟨b2, 0, none⟩)), (5, .int .i64 ((j : Int)))] ∧ FR w0 [] [(b2, .cells #[.int .i64 (k'), .string (bs (t')), .slice (A') (ks'.length) (c'), .slice (B') (ys.length) (e')] 25), (b1, .cells #[.int .i64 (k), .string (bs (t)), .slice (A) (ks.length) (c), .slice (B) (xs.length) (e)] 25)] w) _ ⟨0, rfl, (Nat.zero_le _), (fun i _ h => absurd h (by omega)), ⟨rfl, rfl, rfl, trivial⟩, hF⟩ ?_
 clear hF; rintro μ σ w ⟨j, rfl, hj, ha, hs, hF⟩
 refine Cg.slots hs ?_
 clear hs; intro σ
 refine c_seq (c_seq (c_region (o_val (v := .int .i64 ((j : Int))) (x_move rfl) (o_val (v := .pointer (some ⟨b1, 3, none⟩)) (x_fieldAddrO fa_25_3 rfl) (o_val (v := .slice (B) (xs.length) (e)) (x_load Tryz.isAgg23 rfl (hF.cell 1 rfl rfl)) (o_val (v := .int .i64 ((xs.length : Nat))) (x_len_slice Tryz.underlying23 rfl) (o_val (v := .bool (decide (((j : Int) : Int) < ((xs.length : Nat) : Int)))) (x_lss rfl rfl) (o_nil (e_seq ?_)))))))))
 refine c_splitd (d := 33) (p := ((j : Int) : Int) < ((xs.length : Nat) : Int)) rfl (fun hc1 => ?_) (fun hc1 => ?_)
 refine c_ift rfl (c_skip (e_seq (c_seq (c_block (c_seq (c_region (o_val (v := .int .i64 ((j : Int))) (x_move rfl) (o_val (v := .int .i64 ((j : Int))) (x_assign rfl) (o_nil (e_seq ?_))))))))))
 have hjx : j < xs.length := by omega
 refine c_seq ?_
 refine c_join (fun σ w => ∃ (kk : Int), (kk = if k = 6 then (if h : j < ks.length then atZ ks' ks[j] else -1) else (j : Int)) ∧ AllEq σ [(2, .pointer (some ⟨b1, 0, none⟩)), (3, .pointer (some ⟨b2, 0, none⟩)), (5, .int .i64 ((j : Int))), (6, .int .i64 (kk))] ∧ FR w0 [] [(b2, .cells #[.int .i64 (k'), .string (bs (t')), .slice (A') (ks'.length) (c'), .slice (B') (ys.length) (e')] 25), (b1, .cells #[.int .i64 (k), .string (bs (t)), .slice (A) (ks.length) (c), .slice (B) (xs.length) (e)] 25)] w) ?_ ?_
 refine c_seq (c_region (o_val (v := .pointer (some ⟨b1, 0, none⟩)) (x_fieldAddrO fa_25_0 rfl) (o_val (v := .int .i64 (k)) (x_load Tryz.isAgg3 rfl (hF.cell 1 rfl rfl)) (o_val (v := .bool (decide ((k : Int) = (6 : Int)))) (x_eql rfl rfl) (o_nil (e_seq ?_))))))
 refine c_splitd (d := 39) (p := (k : Int) = (6 : Int)) rfl (fun hc2 => ?_) (fun hc2 => ?_)
 refine c_ift rfl ?_
 refine c_drawF [] (.free 0 (.free 1 (.free 2 (.free 3 (.free 4 (.free 5 (.act 6 (.free 7 .nil)))))))) (by kernel_rfl) hF (by kernel_rfl) (by kernel_rfl) ?_
 clear hF; rintro w hF -
 refine ⟨fun wq => FR w0 [] [(b2, .cells #[.int .i64 (k'), .string (bs (t')), .slice (A') (ks'.length) (c'), .slice (B') (ys.length) (e')] 25), (b1, .cells #[.int .i64 (k), .string (bs (t)), .slice (A) (ks.length) (c), .slice (B) (xs.length) (e)] 25)] wq, hF, ?_⟩
 refine f_free rfl (v := .agg #[.int .i64 (k'), .string (bs (t')), .slice (A') (ks'.length) (c'), .slice (B') (ys.length) (e')]) (fun w hC => x_loadS (l := [.int .i64 (k'), .string (bs (t')), .slice (A') (ks'.length) (c'), .slice (B') (ys.length) (e')]) Tryz.isAgg25 Tryz.sizeOf25 rfl rfl (hC.cellsAll 0 rfl)) (f_free rfl (v := .pointer (some ⟨b1, 2, none⟩)) (fun w hC => x_fieldAddrO fa_25_2 rfl) (f_free rfl (v := .slice (A) (ks.length) (c)) (fun w hC => x_load Tryz.isAgg22 rfl (hC.cell 1 rfl rfl)) (f_free rfl (v := .int .i64 ((j : Int))) (fun w hC => x_move rfl) ?_)))
 obtain ⟨ad2, hA2, hk2, hx2⟩ := hK.str_elem (i := j) (by omega)
 refine f_free rfl (v := .pointer (some (ad2.add (j * 1)))) (fun w hC => x_indexAddrA (i := (j : Int)) sl_22 rfl hA2 rfl (by omega) (by omega)) (f_free rfl (v := .string (bs (ks[j]))) (fun w hC => x_load Tryz.isAgg9 rfl (hC.cell0 hk2)) ?_)
 refine f_call rfl (at_c k' t' ks' ys ks[j] _ _ _ (hF.rep hR')) (x_call2 en_58 rfl rfl rfl) ?_
 rintro _ w ⟨rfl, hE⟩
 replace hF := hF.ext hE
 clear hE
 refine ⟨hF, ?_⟩
 refine f_free rfl (v := .int .i64 (atZ ks' ks[j])) (fun w hC => x_assign rfl) (d_nil ?_)
 · exact e_inv ⟨(atZ ks' ks[j]), (by first | (rw [if_neg (by assumption)]; done) | (rw [if_pos (by assumption), dif_pos (show j < ks.length by omega)]; done)), ⟨rfl, rfl, rfl, rfl, trivial⟩, hF⟩
 refine c_iff rfl (c_skip ?_)
 · exact e_inv ⟨((j : Int)), (by first | (rw [if_neg (by assumption)]; done) | (rw [if_pos (by assumption), dif_pos (show j < ks.length by omega)]; done)), ⟨rfl, rfl, rfl, rfl, trivial⟩, hF⟩
 clear hF; rintro σ w ⟨kk, hkk, hs, hF⟩
 refine Eg.slots hs ?_
 clear hs; intro σ
 refine e_seq (c_seq (c_seq (c_region (o_val (v := .int .i64 (kk)) (x_move rfl) (o_val (v := .bool (decide ((kk : Int) < (0 : Int)))) (x_lss rfl rfl) (o_nil (e_seq ?_)))))))
 refine c_splitd (d := 48) (p := (kk : Int) < (0 : Int)) rfl (fun hc3 => ?_) (fun hc3 => ?_)
 have h6 : k = 6 := Classical.byContradiction fun h => by rw [if_neg h] at hkk; omega
 refine c_ift rfl (c_seq (c_region (o_val (v := .bool false) (x_assign rfl) (o_nil (e_seq ?_)))))
 refine c_ret (e_ret (post_ret (res_1 (v := .bool false) rfl rfl) ?_))
 subst hk_
 subst ht_
 exact ⟨by rw [same_fails hll hlk (i := j) hjx (fun y hy => by rcases hy with ⟨a, _⟩ | ⟨_, hh, b⟩; exact absurd h6 a; rw [if_pos h6, dif_pos hh] at hkk; rw [at_no (xs := ys) (by omega)] at b; cases b)], hF.same⟩
 obtain ⟨q, hq⟩ : ∃ q : Nat, kk = (q : Int) := ⟨kk.toNat, by omega⟩
 subst hq
 obtain ⟨hq3, hmate⟩ : ∃ h : q < ys.length, Mate k ks ks' xs ys j ys[q] := by by_cases h6 : k = 6; (rw [if_pos h6, dif_pos (show j < ks.length by have := (hlk h6).1; omega)] at hkk; obtain ⟨a, b⟩ := at_look (xs := ys) (hlk h6).2 hkk.symm; exact ⟨a, .inr ⟨h6, by have := (hlk h6).1; omega, b⟩⟩); (rw [if_neg h6] at hkk; obtain rfl : q = j := (by omega); exact ⟨by omega, .inl ⟨h6, List.getElem?_eq_getElem (by omega)⟩⟩)
 refine c_iff rfl (c_skip (e_seq (c_seq ?_)))
 refine c_drawF [] (.free 0 (.free 1 (.free 2 (.free 3 (.free 4 (.free 5 (.free 6 (.free 7 (.free 8 (.free 9 (.act 10 (.free 11 .nil)))))))))))) (by kernel_rfl) hF (by kernel_rfl) (by kernel_rfl) ?_
 clear hF; rintro w hF -
 refine ⟨fun wq => FR w0 [] [(b2, .cells #[.int .i64 (k'), .string (bs (t')), .slice (A') (ks'.length) (c'), .slice (B') (ys.length) (e')] 25), (b1, .cells #[.int .i64 (k), .string (bs (t)), .slice (A) (ks.length) (c), .slice (B) (xs.length) (e)] 25)] wq, hF, ?_⟩
 refine f_free rfl (v := .pointer (some ⟨b1, 3, none⟩)) (fun w hC => x_fieldAddrO fa_25_3 rfl) (f_free rfl (v := .slice (B) (xs.length) (e)) (fun w hC => x_load Tryz.isAgg23 rfl (hC.cell 1 rfl rfl)) (f_free rfl (v := .int .i64 ((j : Int))) (fun w hC => x_move rfl) ?_))
 obtain ⟨ad3, cs3, hA3, hl3, hk3, hx3⟩ := hX.tree_elem (i := j) (by omega)
 have ho3 := hx3.one_
 refine f_free rfl (v := .pointer (some (ad3.add (j * 4)))) (fun w hC => x_indexAddrA (i := (j : Int)) sl_23 rfl hA3 rfl (by omega) (by omega)) (f_free rfl (v := .agg (List.toArray cs3)) (fun w hC => x_loadS (l := cs3) Tryz.isAgg25 Tryz.sizeOf25 rfl hl3 (hC.cells0 hk3)) (f_free rfl (v := .pointer (some ⟨b2, 3, none⟩)) (fun w hC => x_fieldAddrO fa_25_3 rfl) (f_free rfl (v := .slice (B') (ys.length) (e')) (fun w hC => x_load Tryz.isAgg23 rfl (hC.cell 0 rfl rfl)) (f_free rfl (v := .int .i64 ((q : Int))) (fun w hC => x_move rfl) ?_))))
 obtain ⟨ad4, cs4, hA4, hl4, hk4, hx4⟩ := hY.tree_elem (i := q) (hq3)
 have ho4 := hx4.one_
 refine f_free rfl (v := .pointer (some (ad4.add (q * 4)))) (fun w hC => x_indexAddrA (i := (q : Int)) sl_23 rfl hA4 rfl (by omega) (by omega)) (f_free rfl (v := .agg (List.toArray cs4)) (fun w hC => x_loadS (l := cs4) Tryz.isAgg25 Tryz.sizeOf25 rfl hl4 (hC.cells0 hk4)) ?_)
 refine f_call rfl (ih xs[j] (List.getElem_mem hjx) ys[q] _ _ _ cs3 cs4 (hF.rep hx3) (hF.rep hx4) (hnx.2 _ (List.getElem_mem hjx)) (hny.2 _ (List.getElem_mem hq3))) (x_call2 en_71 rfl rfl rfl) ?_
 rintro _ w ⟨rfl, hE⟩
 replace hF := hF.ext hE
 clear hE
 refine ⟨hF, ?_⟩
 refine f_free rfl (v := .bool (sameT xs[j] ys[q])) (fun w hC => x_assign rfl) (d_nil (e_seq (c_seq (c_region (o_val (v := .bool (sameT xs[j] ys[q])) (x_move rfl) (o_val (v := .bool (!(sameT xs[j] ys[q]))) (x_not rfl) (o_nil (e_seq ?_))))))))
 refine c_split (d := 61) (b := !(sameT xs[j] ys[q])) rfl (fun hc4 => ?_) (fun hc4 => ?_)
 refine c_ift rfl (c_seq (c_region (o_val (v := .bool false) (x_assign rfl) (o_nil (e_seq ?_)))))
 refine c_ret (e_ret (post_ret (res_1 (v := .bool false) rfl rfl) ?_))
 subst hk_
 subst ht_
 exact ⟨by rw [same_fails hll hlk (i := j) hjx (fun y hy => by rw [hy.det hmate]; exact nb_true (by assumption))], hF.same⟩
 refine c_iff rfl (c_skip (e_block (e_seq (c_region (o_val (v := .int .i64 ((j : Int))) (x_move rfl) (o_val (v := .int .i64 (((j + 1 : Nat) : Int))) (x_add rfl rfl (wrap_to (by omega) (by omega) (by omega))) (o_val (v := .int .i64 (((j + 1 : Nat) : Int))) (x_assign rfl) (o_nil ?_))))))))
 refine e_inv ⟨_, ?_, j + 1, rfl, (by omega), (fun i hi h => by rcases Nat.lt_or_ge i j with h1 | h1; exact ha i hi h1; obtain rfl : i = j := (by omega); exact ⟨_, hmate, nb_false (by assumption)⟩), ⟨rfl, rfl, rfl, trivial⟩, hF⟩
 omega
 refine c_iff rfl ?_
 refine c_exit (e_exit rfl ?_)
 refine e_seq (c_seq (c_region (o_val (v := .bool true) (x_assign rfl) (o_nil (e_seq ?_)))))
 refine c_ret (e_ret (post_ret (res_1 (v := .bool true) rfl rfl) ?_))
 subst hk_
 subst ht_
 exact ⟨by rw [(same_all_ hll hlk).2 (fun i h => ha i h (by omega))], hF.same⟩
theorem rsameT_c (x : Tree) : RSameC x := Tree.ind rsame_step x
set_option maxHeartbeats 1000000 in
set_option maxRecDepth 10000 in
theorem rsameV_c (x y : Tree) (hsx : sizeT x ≤ 1000000000) (hsy : sizeT y ≤ 1000000000) (hmx : maxL x ≤ 1073741824) (hmy : maxL y ≤ 1073741824) (S S' : Nat → Prop) (w0 : World) (cs ct : List Value) (hR : Rep S w0 (treeD x) cs) (hR' : Rep S' w0 (treeD y) ct) : Calls Tryz.prog 47 #[.agg cs.toArray, .agg ct.toArray] w0 (Ret fun v w' => v = .bool (SameV x y) ∧ Same [] w0 w') := by
 have hl : cs.length = 4 := hR.length.trans (size_treeD x)
 have ho := hR.one_
 have hl' : ct.length = 4 := hR'.length.trans (size_treeD y)
 have ho' := hR'.one_
 refine calls_start Tryz.func47 rfl Tryz.ntmps47 (Nat.le_of_ble_eq_true rfl) (args_2 _ _) ?_
 have hF := FR.start w0 []
 refine c_seq (c_region ?_)
 refine o_box (v := .agg (List.toArray cs)) (cs := (List.toArray cs)) hF rfl rfl ?_
 clear hF; rintro b1 w hb1 hF -
 refine o_box (v := .agg (List.toArray ct)) (cs := (List.toArray ct)) hF rfl rfl ?_
 clear hF; rintro b2 w hb2 hF -
 refine o_val (v := .bool false) (x_assign rfl) (o_nil (e_seq (c_seq (c_region (o_val (v := .agg (List.toArray cs)) (x_loadS (l := cs) Tryz.isAgg25 Tryz.sizeOf25 rfl hl (hF.cellsAll 1 rfl)) ?_)))))
 refine o_call (ropen_t x hsx hmx S _ cs (hF.rep hR)) (x_call1 en_34 rfl rfl) ?_
 rintro _ w ⟨rfl, hE⟩
 replace hF := hF.ext hE
 clear hE
 refine o_val (v := .bool (openB x)) (x_assign rfl) (o_nil (e_seq (c_seq (c_region (o_val (v := .agg (List.toArray ct)) (x_loadS (l := ct) Tryz.isAgg25 Tryz.sizeOf25 rfl hl' (hF.cellsAll 0 rfl)) ?_)))))
 refine o_call (ropen_t y hsy hmy S' _ ct (hF.rep hR')) (x_call1 en_34 rfl rfl) ?_
 rintro _ w ⟨rfl, hE⟩
 replace hF := hF.ext hE
 clear hE
 refine o_val (v := .bool (openB y)) (x_assign rfl) (o_nil (e_seq (c_seq (c_region (o_val (v := .bool (openB x)) (x_move rfl) (o_val (v := .bool (openB x)) (x_move rfl) ?_))))))
 refine o_split (d := 12) (b := openB x) rfl (fun hg0 => ?_) (fun hg0 => ?_)
 refine o_val (v := .bool (openB y)) (x_move rfl) (o_val (v := .bool (openB y)) (x_pickt rfl rfl) (o_val (v := .bool (openB y)) (x_move rfl) ?_))
 refine o_split (d := 15) (b := openB y) rfl (fun hg1 => ?_) (fun hg1 => ?_)
 refine o_val (v := .agg (List.toArray cs)) (x_loadS (l := cs) Tryz.isAgg25 Tryz.sizeOf25 rfl hl (hF.cellsAll 1 rfl)) (o_val (v := .agg (List.toArray ct)) (x_loadS (l := ct) Tryz.isAgg25 Tryz.sizeOf25 rfl hl' (hF.cellsAll 0 rfl)) ?_)
 refine o_call (rsameT_c x y _ _ _ cs ct (hF.rep hR) (hF.rep hR') (open_all (by assumption)) (open_all (by assumption))) (x_call2 en_71 rfl rfl rfl) ?_
 rintro _ w ⟨rfl, hE⟩
 replace hF := hF.ext hE
 clear hE
 refine o_val (v := .bool (sameT x y)) (x_pickt rfl rfl) (o_val (v := .bool (sameT x y)) (x_assign rfl) (o_nil (e_seq ?_)))
 refine c_ret (e_ret (post_ret (res_1 (v := .bool (sameT x y)) rfl rfl) ?_))
 refine ⟨congrArg Value.bool ?_, hF.same⟩
 unfold SameV
 first | (rw [(by assumption : openB x = false)]; rfl) | (rw [(by assumption : openB y = false), Bool.and_false]; rfl) | (rw [(by assumption : openB x = true), (by assumption : openB y = true)]; rfl)
 refine o_off (o_off (o_off (o_val (v := .bool false) (x_pickf rfl rfl) (o_val (v := .bool false) (x_assign rfl) (o_nil (e_seq ?_))))))
 refine c_ret (e_ret (post_ret (res_1 (v := .bool false) rfl rfl) ?_))
 refine ⟨congrArg Value.bool ?_, hF.same⟩
 unfold SameV
 first | (rw [(by assumption : openB x = false)]; rfl) | (rw [(by assumption : openB y = false), Bool.and_false]; rfl) | (rw [(by assumption : openB x = true), (by assumption : openB y = true)]; rfl)
 refine o_off (o_val (v := .bool false) (x_pickf rfl rfl) (o_val (v := .bool false) (x_move rfl) (o_off (o_off (o_off (o_val (v := .bool false) (x_pickf rfl rfl) (o_val (v := .bool false) (x_assign rfl) (o_nil (e_seq ?_)))))))))
 refine c_ret (e_ret (post_ret (res_1 (v := .bool false) rfl rfl) ?_))
 refine ⟨congrArg Value.bool ?_, hF.same⟩
 unfold SameV
 first | (rw [(by assumption : openB x = false)]; rfl) | (rw [(by assumption : openB y = false), Bool.and_false]; rfl) | (rw [(by assumption : openB x = true), (by assumption : openB y = true)]; rfl)
theorem strLt_cmp : ∀ a b : Str, strLt a b = decide (Lib.compareBytes a b = -1)
  | [], [] => rfl
  | [], _ :: _ => rfl
  | _ :: _, [] => rfl
  | c :: a, d :: b => by
    have ih := strLt_cmp a b
    unfold strLt at ih ⊢
    rw [Op.bytesLess, Lib.compareBytes, ih]
    by_cases h1 : c < d
    · rw [if_pos h1]
      have := UInt8.lt_iff_toNat_lt.1 h1
      simp [h1]
    · rw [if_neg h1]
      by_cases h2 : d < c
      · rw [if_pos h2]
        have : ¬ c = d := fun e => by subst e; exact h1 h2
        simp [h1, this]
      · rw [if_neg h2]
        have h3 : c = d := UInt8.toNat.inj (by have a1 : ¬ c.toNat < d.toNat := fun h => h1 (UInt8.lt_iff_toNat_lt.2 h); have a2 : ¬ d.toNat < c.toNat := fun h => h2 (UInt8.lt_iff_toNat_lt.2 h); omega)
        simp [h3]
theorem cmpB_three (a b : Str) : Lib.compareBytes a b = -1 ∨ Lib.compareBytes a b = 0 ∨ Lib.compareBytes a b = 1 := by rcases compareBytes_three a b with h | h | h; exact .inr (.inl h); exact .inr (.inr h); exact .inl h
set_option maxHeartbeats 1000000 in
set_option maxRecDepth 10000 in
theorem texts_c (a b : Str) (w0 : World) : Calls Tryz.prog 108 #[.string (bs a), .string (bs b)] w0 (Ret fun v w' => v = .int .i64 (Lib.compareBytes a b) ∧ Same [] w0 w') := by
 refine calls_start Tryz.func108 rfl Tryz.ntmps108 (Nat.le_of_ble_eq_true rfl) (args_2 _ _) ?_
 have hF := FR.start w0 []
 refine c_seq (c_region (o_val (v := .int .i64 (0)) (x_assign rfl) (o_nil (e_seq (c_seq (c_seq (c_region (o_val (v := .string (bs (a))) (x_move rfl) (o_val (v := .string (bs (b))) (x_move rfl) (o_val (v := .bool (strLt (a) (b))) (x_lsss rfl rfl) (o_nil (e_seq ?_))))))))))))
 refine c_split (d := 7) (b := strLt (a) (b)) rfl (fun hc0 => ?_) (fun hc0 => ?_)
 refine c_ift rfl (c_seq (c_region (o_val (v := .int .i64 ((-1))) (x_assign rfl) (o_nil (e_seq ?_)))))
 refine c_ret (e_ret (post_ret (res_1 (v := .int .i64 ((-1))) rfl rfl) ?_))
 exact ⟨by rw [of_decide_eq_true ((strLt_cmp a b).symm.trans (by assumption))], hF.same⟩
 refine c_iff rfl (c_skip (e_seq (c_seq (c_seq (c_region (o_val (v := .string (bs (a))) (x_move rfl) (o_val (v := .string (bs (b))) (x_move rfl) (o_val (v := .bool (!(strLt a b || decide ((a : Str) = b)))) (x_gtrs rfl rfl) (o_nil (e_seq ?_))))))))))
 refine c_split (d := 10) (b := !(strLt a b || decide ((a : Str) = b))) rfl (fun hc1 => ?_) (fun hc1 => ?_)
 refine c_ift rfl (c_seq (c_region (o_val (v := .int .i64 (1)) (x_assign rfl) (o_nil (e_seq ?_)))))
 refine c_ret (e_ret (post_ret (res_1 (v := .int .i64 (1)) rfl rfl) ?_))
 have h1 := of_decide_eq_false ((strLt_cmp a b).symm.trans (by assumption : strLt a b = false))
 have h2 : ¬ Lib.compareBytes a b = 0 := fun e => by have h3 := ((la_bytes a).eq b trivial).1 e; subst h3; simp_all
 exact ⟨by rw [(cmpB_three a b).resolve_left h1 |>.resolve_left h2], hF.same⟩
 refine c_iff rfl (c_skip (e_seq (c_seq (c_region (o_val (v := .int .i64 (0)) (x_assign rfl) (o_nil (e_seq ?_)))))))
 refine c_ret (e_ret (post_ret (res_1 (v := .int .i64 (0)) rfl rfl) ?_))
 have h1 := of_decide_eq_false ((strLt_cmp a b).symm.trans (by assumption : strLt a b = false))
 have h2 : (a : Str) = b := by have hx := hc1; rw [(by assumption : strLt a b = false), Bool.false_or] at hx; simpa using hx
 exact ⟨by rw [((la_bytes a).eq b trivial).2 h2], hF.same⟩
end Go.Scarf
