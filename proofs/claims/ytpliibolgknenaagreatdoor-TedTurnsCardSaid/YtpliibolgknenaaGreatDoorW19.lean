/- A part of the proof. -/
import Derived.Test.YtpliibolgknenaaGreatDoorW16
set_option linter.all false
namespace Go.Scarf
open Go.RowKit Go.Proofs
mutual
def eqT : Tree → Tree → Bool
  | .node k t ks xs, .node k' t' ks' ys => decide (k = k') && decide (t = t') && decide (ks = ks') && eqTs xs ys
def eqTs : List Tree → List Tree → Bool
  | [], [] => true
  | x :: xs, y :: ys => eqT x y && eqTs xs ys
  | _, _ => false
end
theorem eqTs_of : ∀ {xs ys : List Tree}, (∀ x ∈ xs, ∀ y, eqT x y = true ↔ x = y) → (eqTs xs ys = true ↔ xs = ys)
  | [], [], _ => by simp [eqTs]
  | [], _ :: _, _ => by simp [eqTs]
  | _ :: _, [], _ => by simp [eqTs]
  | x :: xs, y :: ys, h => by
    rw [eqTs, Bool.and_eq_true, h x (by simp) y, eqTs_of (fun z hz => h z (by simp [hz]))]
    simp
theorem eqT_iff (x : Tree) : ∀ y, eqT x y = true ↔ x = y := Tree.ind (Q := fun x => ∀ y, eqT x y = true ↔ x = y) (fun k t ks xs ih y => by
  obtain ⟨k', t', ks', ys⟩ := y
  rw [eqT, Bool.and_eq_true, Bool.and_eq_true, Bool.and_eq_true, eqTs_of ih]
  simp [and_assoc]) x
instance : DecidableEq Tree := fun x y => if h : eqT x y = true then .isTrue ((eqT_iff x y).1 h) else .isFalse (fun e => h ((eqT_iff x y).2 e))
mutual
def fewT (left deep : Int) : Tree → Int | .node _ _ ks xs => if 60 < deep then -1 else fewTs (left - 1 - ks.length) deep xs
def fewTs (left deep : Int) : List Tree → Int | [] => left | x :: xs => if left < 0 then left else fewTs (fewT left (deep + 1) x) deep xs
end
mutual
def shortT : Tree → Bool | .node _ t ks xs => decide (t.length ≤ 2048) && ks.all (fun k => decide (k.length ≤ 1024)) && shortTs xs
def shortTs : List Tree → Bool | [] => true | x :: xs => shortT x && shortTs xs
end
def fewB (x : Tree) (most : Int) : Bool := decide (0 ≤ fewT most 0 x) && shortT x
theorem fewTs_le (deep : Int) : ∀ (xs : List Tree) (left : Int), (∀ x ∈ xs, ∀ l d : Int, 0 ≤ l → fewT l d x ≤ l) → fewTs left deep xs ≤ left
  | [], left, _ => by rw [fewTs]; exact Int.le_refl _
  | x :: xs, left, h => by
    rw [fewTs]
    split
    · exact Int.le_refl _
    · have h1 := h x (by simp) left (deep + 1) (by omega)
      have h2 := fewTs_le deep xs (fewT left (deep + 1) x) (fun y hy => h y (by simp [hy]))
      omega
theorem fewT_le (x : Tree) : ∀ l d : Int, 0 ≤ l → fewT l d x ≤ l := Tree.ind (Q := fun x => ∀ l d : Int, 0 ≤ l → fewT l d x ≤ l) (fun k t ks xs ih l d hl => by
  rw [fewT]
  split
  · omega
  · have := fewTs_le d xs (l - 1 - ks.length) ih
    omega) x
theorem fewTs_neg {left deep : Int} (h : left < 0) : ∀ xs : List Tree, fewTs left deep xs = left
  | [] => by rw [fewTs]
  | x :: xs => by rw [fewTs, if_pos h]
theorem fewT_count (x : Tree) : ∀ l d : Int, 0 ≤ l → 0 ≤ d → 0 ≤ fewT l d x → fewT l d x = l - sizeT x - keysT x ∧ d + depthT x ≤ 61 := Tree.ind (Q := fun x => ∀ l d : Int, 0 ≤ l → 0 ≤ d → 0 ≤ fewT l d x → fewT l d x = l - sizeT x - keysT x ∧ d + depthT x ≤ 61) (fun k t ks xs ih l d hl hd h => by
  rw [fewT] at h ⊢
  split at h
  · omega
  · rename_i hd60
    rw [if_neg hd60]
    have key : ∀ (ys : List Tree), (∀ y ∈ ys, y ∈ xs) → ∀ m : Int, 0 ≤ fewTs m d ys → fewTs m d ys = m - sizeTs ys - keysTs ys ∧ d + 1 + depthTs ys ≤ 61 := by
      intro ys
      induction ys with
      | nil => intro _ m hm; simp only [fewTs, sizeTs, keysTs, depthTs]; omega
      | cons y ys ihy =>
        intro hm m h0
        rw [fewTs] at h0 ⊢
        split at h0
        · omega
        · rename_i hmm
          rw [if_neg hmm]
          obtain ⟨a1, a2⟩ := ihy (fun z hz => hm z (by simp [hz])) _ h0
          have h3 : 0 ≤ fewT m (d + 1) y := by
            rcases Int.lt_or_le (fewT m (d + 1) y) 0 with hlt | hge
            · rw [fewTs_neg hlt] at h0; omega
            · exact hge
          obtain ⟨b1, b2⟩ := ih y (hm y (by simp)) m (d + 1) (by omega) (by omega) h3
          simp only [sizeTs, keysTs, depthTs]
          omega
    obtain ⟨a1, a2⟩ := key xs (fun _ h => h) _ h
    rw [sizeT, keysT, depthT]
    omega) x
theorem fewB_ok {x : Tree} {most : Int} (hm : 0 ≤ most) (h : fewB x most = true) : (sizeT x : Int) + keysT x ≤ most ∧ depthT x ≤ 61 ∧ shortT x = true := by
  unfold fewB at h
  rw [Bool.and_eq_true, decide_eq_true_eq] at h
  obtain ⟨a, b⟩ := fewT_count x most 0 hm (by omega) h.1
  exact ⟨by omega, by omega, h.2⟩
theorem fewTs_drop {left deep : Int} {xs : List Tree} {j : Nat} (h : j < xs.length) (h0 : ¬ left < 0) : fewTs left deep (xs.drop j) = fewTs (fewT left (deep + 1) xs[j]) deep (xs.drop (j + 1)) := by
  rw [List.drop_eq_getElem_cons h, fewTs, if_neg h0]
def FewC (x : Tree) : Prop := ∀ (left deep : Int) S w0 cs, 0 ≤ left → left ≤ 1000000 → 0 ≤ deep → deep ≤ 61 → Rep S w0 (treeD x) cs → Calls Tryz.prog 24 #[.agg cs.toArray, .int .i64 left, .int .i64 deep] w0 (Ret fun v w' => v = .int .i64 (fewT left deep x) ∧ Same [] w0 w')
def ShortC (x : Tree) : Prop := ∀ S w0 cs, Rep S w0 (treeD x) cs → Calls Tryz.prog 25 #[.agg cs.toArray] w0 (Ret fun v w' => v = .bool (shortT x) ∧ Same [] w0 w')
theorem shortTs_mem {xs : List Tree} {x : Tree} (h : x ∈ xs) (hs : shortT x = false) : shortTs xs = false := by
  induction xs with
  | nil => cases h
  | cons y ys ih =>
    rw [shortTs]
    rcases List.mem_cons.1 h with rfl | h
    · rw [hs]; rfl
    · rw [ih h, Bool.and_false]
theorem shortTs_all {xs : List Tree} (h : ∀ j (hj : j < xs.length), shortT xs[j] = true) : shortTs xs = true := by
  induction xs with
  | nil => rfl
  | cons y ys ih =>
    have h0 : shortT y = true := h 0 (by simp)
    rw [shortTs, h0, Bool.true_and]
    exact ih (fun j hj => by have := h (j + 1) (by simpa using hj); simpa using this)
set_option maxHeartbeats 1000000 in
set_option maxRecDepth 10000 in
theorem few_step (k : Int) (t : Str) (ks : List Str) (xs : List Tree) (ih : ∀ x, x ∈ xs → FewC x) : FewC (.node k t ks xs) := by
 intro left deep S w0 cs h0 h1 h2 h3 hR
 obtain ⟨A, c, B, e, rfl, -, -, hK, hX⟩ := hR.tree_inv
 have hXl := hX.slice_len
 have hKl := hK.slice_len
 refine calls_start Tryz.func24 rfl Tryz.ntmps24 (Nat.le_of_ble_eq_true rfl) (args_3 _ _ _) ?_
 have hF := FR.start w0 []
 refine c_seq (c_region ?_)
 refine o_box (v := .agg #[.int .i64 (k), .string (bs (t)), .slice (A) (ks.length) (c), .slice (B) (xs.length) (e)]) (cs := #[.int .i64 (k), .string (bs (t)), .slice (A) (ks.length) (c), .slice (B) (xs.length) (e)]) hF rfl rfl ?_
 clear hF; rintro b1 w hb1 hF -
 refine o_val (x_assign rfl) (o_nil (e_seq (c_seq (c_seq (c_region (o_val (x_move rfl) (o_val (v := .bool (decide ((60 : Int) < (deep : Int)))) (x_gtr rfl rfl) (o_nil (e_seq ?_)))))))))
 refine c_splitd (d := 9) (p := (60 : Int) < (deep : Int)) rfl (fun hc0 => ?_) (fun hc0 => ?_)
 refine c_ift rfl (c_seq (c_region (o_val (x_assign rfl) (o_nil (e_seq ?_)))))
 refine c_ret (e_ret (post_ret (res_1 (v := .int .i64 ((-1))) rfl rfl) ?_))
 exact ⟨congrArg (Value.int .i64) (by rw [fewT, if_pos (by omega)]), hF.same⟩
 refine c_iff rfl (c_skip (e_seq (c_seq (c_region (o_val (x_move rfl) (o_val (v := .int .i64 ((left : Int) - 1)) (x_sub rfl rfl (wrap_id (by omega) (by omega))) (o_val (v := .pointer (some ⟨b1, 2, none⟩)) (x_fieldAddrO fa_25_2 rfl) (o_val (v := .slice (A) (ks.length) (c)) (x_load Tryz.isAgg22 rfl (hF.cell 0 rfl rfl)) (o_val (v := .int .i64 ((ks.length : Nat))) (x_len_slice Tryz.underlying22 rfl) (o_val (v := .int .i64 (((left : Int) - 1 : Int) - (ks.length : Nat))) (x_sub rfl rfl (wrap_id (by omega) (by omega))) (o_val (x_assign rfl) (o_nil (e_seq ?_)))))))))))))
 refine c_seq (c_seq (c_region (o_val (x_assign rfl) (o_nil (e_seq (c_block ?_))))))
 refine c_loop (fun μ σ w => ∃ (j : Nat), ∃ (lf : Int), μ = xs.length - j ∧ (j ≤ xs.length) ∧ (lf ≤ 1000000) ∧ (fewTs (left - 1 - ks.length) deep xs = fewTs lf deep (xs.drop j)) ∧ AllEq σ [(1, .int .i64 (lf)), (2, .int .i64 (deep)), (3, .pointer (some ⟨b1, 0, none⟩)), (7, .int .i64 ((j : Int)))] ∧ FR w0 [] [(b1, .cells #[.int .i64 (k), .string (bs (t)), .slice (A) (ks.length) (c), .slice (B) (xs.length) (e)] 25)] w) _ ⟨0, (left - 1 - ks.length), rfl, (Nat.zero_le _), (by omega), (by simp), ⟨rfl, rfl, rfl, rfl, trivial⟩, hF⟩ ?_
 clear hF; rintro μ σ w ⟨j, lf, rfl, hj, hlf, hf, hs, hF⟩
 refine Cg.slots hs ?_
 clear hs; intro σ
 refine c_seq (c_seq (c_region (o_val (x_move rfl) (o_val (v := .pointer (some ⟨b1, 3, none⟩)) (x_fieldAddrO fa_25_3 rfl) (o_val (v := .slice (B) (xs.length) (e)) (x_load Tryz.isAgg23 rfl (hF.cell 0 rfl rfl)) (o_val (v := .int .i64 ((xs.length : Nat))) (x_len_slice Tryz.underlying23 rfl) (o_val (v := .bool (decide (((j : Int) : Int) < ((xs.length : Nat) : Int)))) (x_lss rfl rfl) (o_val (x_move rfl) ?_))))))))
 refine o_splitd (d := 21) (p := ((j : Int) : Int) < ((xs.length : Nat) : Int)) rfl (fun hg0 => ?_) (fun hg0 => ?_)
 refine o_val (x_move rfl) (o_val (v := .bool (decide ((0 : Int) ≤ (lf : Int)))) (x_geq rfl rfl) (o_val (x_pickt rfl rfl) (o_nil (e_seq ?_))))
 refine c_splitd (d := 24) (p := (0 : Int) ≤ (lf : Int)) rfl (fun hc1 => ?_) (fun hc1 => ?_)
 refine c_ift rfl (c_skip (e_seq (c_seq (c_block (c_region (o_val (v := .pointer (some ⟨b1, 3, none⟩)) (x_fieldAddrO fa_25_3 rfl) (o_val (v := .slice (B) (xs.length) (e)) (x_load Tryz.isAgg23 rfl (hF.cell 0 rfl rfl)) (o_val (x_move rfl) ?_))))))))
 obtain ⟨ad1, cs1, hA1, hl1, hk1, hx1⟩ := hX.tree_elem (i := j) (by omega)
 have ho1 := hx1.one_
 refine o_val (v := .pointer (some (ad1.add (j * 4)))) (x_indexAddrA (i := (j : Int)) sl_23 rfl hA1 rfl (by omega) (by omega)) (o_val (v := .agg (List.toArray cs1)) (x_loadS (l := cs1) Tryz.isAgg25 Tryz.sizeOf25 rfl hl1 (hF.cells0 hk1)) (o_val (x_move rfl) (o_val (x_move rfl) (o_val (v := .int .i64 ((deep : Int) + 1)) (x_add rfl rfl (wrap_id (by omega) (by omega))) ?_))))
 refine o_call (ih _ (List.getElem_mem (l := xs) (n := j) (by omega)) lf (deep + 1) _ _ _ (by omega) (by omega) (by omega) (by omega) (hF.rep hx1)) (x_call3 en_24 rfl rfl rfl rfl) ?_
 rintro _ w ⟨rfl, hE⟩
 replace hF := hF.ext hE
 clear hE
 refine o_val (x_assign rfl) (o_nil (e_block (e_seq (c_region (o_val (x_move rfl) (o_val (v := .int .i64 (((j : Int) : Int) + 1)) (x_add rfl rfl (wrap_id (by omega) (by omega))) (o_val (x_assign rfl) (o_nil ?_))))))))
 refine e_inv ⟨_, ?_, j + 1, fewT lf (deep + 1) xs[j], rfl, (by omega), (by have := fewT_le xs[j] lf (deep + 1) (by omega); omega), (hf.trans (fewTs_drop (by omega) (by omega))), ⟨rfl, rfl, rfl, rfl, trivial⟩, hF⟩
 omega
 refine c_iff rfl ?_
 refine c_exit (e_exit rfl ?_)
 refine e_seq (c_seq (c_region (o_val (x_move rfl) (o_val (x_assign rfl) (o_nil (e_seq ?_))))))
 refine c_ret (e_ret (post_ret (res_1 (v := .int .i64 (lf)) rfl rfl) ?_))
 refine ⟨congrArg (Value.int .i64) ?_, hF.same⟩
 rw [fewT, if_neg (by omega), hf]
 · first | (rw [List.drop_eq_nil_of_le (by omega), fewTs]; done) | (rw [fewTs_neg (by omega)])
 refine o_off (o_off (o_val (x_pickf rfl rfl) (o_nil (e_seq (c_iff rfl ?_)))))
 refine c_exit (e_exit rfl ?_)
 refine e_seq (c_seq (c_region (o_val (x_move rfl) (o_val (x_assign rfl) (o_nil (e_seq ?_))))))
 refine c_ret (e_ret (post_ret (res_1 (v := .int .i64 (lf)) rfl rfl) ?_))
 refine ⟨congrArg (Value.int .i64) ?_, hF.same⟩
 rw [fewT, if_neg (by omega), hf]
 · first | (rw [List.drop_eq_nil_of_le (by omega), fewTs]; done) | (rw [fewTs_neg (by omega)])
theorem few_c (x : Tree) : FewC x := Tree.ind few_step x
set_option maxHeartbeats 1000000 in
set_option maxRecDepth 10000 in
theorem short_step (k : Int) (t : Str) (ks : List Str) (xs : List Tree) (ih : ∀ x, x ∈ xs → ShortC x) : ShortC (.node k t ks xs) := by
  intro S w0 cs hR
  obtain ⟨A, c, B, e, rfl, -, -, hK, hX⟩ := hR.tree_inv
  have hXl := hX.slice_len
  have hKl := hK.slice_len
  refine calls_start Tryz.func25 rfl Tryz.ntmps25 (Nat.le_of_ble_eq_true rfl) (args_1 _) ?_
  have hF := FR.start w0 []
  refine c_seq ?_
  refine c_region ?_
  refine o_box (v := .agg #[.int .i64 (k), .string (bs (t)), .slice (A) (ks.length) (c), .slice (B) (xs.length) (e)]) (cs := #[.int .i64 (k), .string (bs (t)), .slice (A) (ks.length) (c), .slice (B) (xs.length) (e)]) hF rfl rfl ?_
  clear hF; intro b1 w hb1 hF hE
  clear hE
  refine o_val (x_assign rfl) ?_
  refine o_nil ?_
  refine e_seq ?_
  refine c_seq ?_
  refine c_seq ?_
  refine c_region ?_
  refine o_val (v := .pointer (some ⟨b1, 1, none⟩)) (x_fieldAddrO fa_25_1 rfl) ?_
  refine o_val (v := .string (bs (t))) (x_load Tryz.isAgg9 rfl (hF.cell 0 rfl rfl)) ?_
  refine o_val (v := .int .i64 ((((t) : Str).length : Int))) (x_len_string Tryz.underlying9 rfl) ?_
  refine o_val (v := .bool (decide ((2048 : Int) < ((((t) : Str).length : Int) : Int)))) (x_gtr rfl rfl) ?_
  refine o_nil ?_
  refine e_seq ?_
  refine c_splitd (d := 9) (p := (2048 : Int) < ((((t) : Str).length : Int) : Int)) rfl (fun hc0 => ?_) (fun hc0 => ?_)
  ·
    refine c_ift rfl ?_
    refine c_seq ?_
    refine c_region ?_
    refine o_val (x_assign rfl) ?_
    refine o_nil ?_
    refine e_seq ?_
    refine c_ret (e_ret (post_ret (res_1 (v := .bool false) rfl rfl) ?_))
    exact ⟨congrArg Value.bool (by rw [shortT, decide_eq_false (by omega)]; rfl), hF.same⟩
  ·
    refine c_iff rfl ?_
    refine c_skip ?_
    refine e_seq ?_
    refine c_seq ?_
    refine c_seq ?_
    refine c_region ?_
    refine o_val (x_assign rfl) ?_
    refine o_nil ?_
    refine e_seq ?_
    refine c_block ?_
    refine c_loop (fun μ σ w => ∃ (j : Nat), μ = ks.length - j ∧ (j ≤ ks.length) ∧ (∀ i (hi : i < j) (hk : i < ks.length), ks[i].length ≤ 1024) ∧ AllEq σ [(1, .pointer (some ⟨b1, 0, none⟩)), (3, .int .i64 ((j : Int)))] ∧ FR w0 [] [(b1, .cells #[.int .i64 (k), .string (bs (t)), .slice (A) (ks.length) (c), .slice (B) (xs.length) (e)] 25)] w) _ ⟨0, rfl, (Nat.zero_le _), (fun i hi => absurd hi (by omega)), ⟨rfl, rfl, trivial⟩, hF⟩ ?_
    clear hF; rintro μ σ w ⟨j, rfl, hj, ha, hs, hF⟩
    refine Cg.slots hs ?_
    clear hs; intro σ
    refine c_seq ?_
    refine c_seq ?_
    refine c_region ?_
    refine o_val (x_move rfl) ?_
    refine o_val (v := .pointer (some ⟨b1, 2, none⟩)) (x_fieldAddrO fa_25_2 rfl) ?_
    refine o_val (v := .slice (A) (ks.length) (c)) (x_load Tryz.isAgg22 rfl (hF.cell 0 rfl rfl)) ?_
    refine o_val (v := .int .i64 ((ks.length : Nat))) (x_len_slice Tryz.underlying22 rfl) ?_
    refine o_val (v := .bool (decide (((j : Int) : Int) < ((ks.length : Nat) : Int)))) (x_lss rfl rfl) ?_
    refine o_nil ?_
    refine e_seq ?_
    refine c_splitd (d := 14) (p := ((j : Int) : Int) < ((ks.length : Nat) : Int)) rfl (fun hc1 => ?_) (fun hc1 => ?_)
    ·
      refine c_ift rfl ?_
      refine c_skip ?_
      refine e_seq ?_
      refine c_seq ?_
      refine c_block ?_
      refine c_seq ?_
      refine c_region ?_
      refine o_val (v := .pointer (some ⟨b1, 2, none⟩)) (x_fieldAddrO fa_25_2 rfl) ?_
      refine o_val (v := .slice (A) (ks.length) (c)) (x_load Tryz.isAgg22 rfl (hF.cell 0 rfl rfl)) ?_
      refine o_val (x_move rfl) ?_
      obtain ⟨ad0, hA0, hk0, hx0⟩ := hK.str_elem (i := j) (by omega)
      refine o_val (v := .pointer (some (ad0.add (j * 1)))) (x_indexAddrA (i := (j : Int)) sl_22 rfl hA0 rfl (by omega) (by omega)) ?_
      refine o_val (v := .string (bs (ks[j]))) (x_load Tryz.isAgg9 rfl (hF.cell0 hk0)) ?_
      refine o_val (v := .int .i64 ((((ks[j]) : Str).length : Int))) (x_len_string Tryz.underlying9 rfl) ?_
      refine o_val (v := .bool (decide ((1024 : Int) < ((((ks[j]) : Str).length : Int) : Int)))) (x_gtr rfl rfl) ?_
      refine o_nil ?_
      refine e_seq ?_
      refine c_splitd (d := 23) (p := (1024 : Int) < ((((ks[j]) : Str).length : Int) : Int)) rfl (fun hc2 => ?_) (fun hc2 => ?_)
      ·
        refine c_ift rfl ?_
        refine c_seq ?_
        refine c_region ?_
        refine o_val (x_assign rfl) ?_
        refine o_nil ?_
        refine e_seq ?_
        refine c_ret (e_ret (post_ret (res_1 (v := .bool false) rfl rfl) ?_))
        have hno : ks.all (fun k => decide (k.length ≤ 1024)) = false := by
          rw [Bool.eq_false_iff]; intro hall; have := List.all_eq_true.1 hall ks[j] (List.getElem_mem _); simp only [decide_eq_true_eq] at this; omega
        exact ⟨congrArg Value.bool (by rw [shortT, hno, Bool.and_false]; rfl), hF.same⟩
      ·
        refine c_iff rfl ?_
        refine c_skip ?_
        refine e_block ?_
        refine e_seq ?_
        refine c_region ?_
        refine o_val (x_move rfl) ?_
        refine o_val (v := .int .i64 (((j : Int) : Int) + 1)) (x_add rfl rfl (wrap_id (by omega) (by omega))) ?_
        refine o_val (x_assign rfl) ?_
        refine o_nil ?_
        refine e_inv ⟨_, ?_, j + 1, rfl, (by omega), (fun i hi hk => by rcases Nat.lt_or_ge i j with h | h; exact ha i h hk; obtain rfl : i = j := (by omega); omega), ⟨rfl, rfl, trivial⟩, hF⟩
        omega
    ·
      refine c_iff rfl ?_
      refine c_exit (e_exit rfl ?_)
      refine e_seq ?_
      refine c_seq ?_
      refine c_seq ?_
      refine c_region ?_
      refine o_val (x_assign rfl) ?_
      refine o_nil ?_
      refine e_seq ?_
      refine c_block ?_
      refine c_loop (fun μ σ w => ∃ (i : Nat), μ = xs.length - i ∧ (i ≤ xs.length) ∧ (∀ m (hm : m < i) (hk : m < xs.length), shortT xs[m] = true) ∧ AllEq σ [(1, .pointer (some ⟨b1, 0, none⟩)), (4, .int .i64 ((i : Int)))] ∧ FR w0 [] [(b1, .cells #[.int .i64 (k), .string (bs (t)), .slice (A) (ks.length) (c), .slice (B) (xs.length) (e)] 25)] w) _ ⟨0, rfl, (Nat.zero_le _), (fun i hi => absurd hi (by omega)), ⟨rfl, rfl, trivial⟩, hF⟩ ?_
      clear hF; rintro μ σ w ⟨i, rfl, hi, hb, hs, hF⟩
      refine Cg.slots hs ?_
      clear hs; intro σ
      refine c_seq ?_
      refine c_seq ?_
      refine c_region ?_
      refine o_val (x_move rfl) ?_
      refine o_val (v := .pointer (some ⟨b1, 3, none⟩)) (x_fieldAddrO fa_25_3 rfl) ?_
      refine o_val (v := .slice (B) (xs.length) (e)) (x_load Tryz.isAgg23 rfl (hF.cell 0 rfl rfl)) ?_
      refine o_val (v := .int .i64 ((xs.length : Nat))) (x_len_slice Tryz.underlying23 rfl) ?_
      refine o_val (v := .bool (decide (((i : Int) : Int) < ((xs.length : Nat) : Int)))) (x_lss rfl rfl) ?_
      refine o_nil ?_
      refine e_seq ?_
      refine c_splitd (d := 28) (p := ((i : Int) : Int) < ((xs.length : Nat) : Int)) rfl (fun hc3 => ?_) (fun hc3 => ?_)
      ·
        refine c_ift rfl ?_
        refine c_skip ?_
        refine e_seq ?_
        refine c_seq ?_
        refine c_block ?_
        refine c_seq ?_
        refine c_region ?_
        refine o_val (v := .pointer (some ⟨b1, 3, none⟩)) (x_fieldAddrO fa_25_3 rfl) ?_
        refine o_val (v := .slice (B) (xs.length) (e)) (x_load Tryz.isAgg23 rfl (hF.cell 0 rfl rfl)) ?_
        refine o_val (x_move rfl) ?_
        obtain ⟨ad1, cs1, hA1, hl1, hk1, hx1⟩ := hX.tree_elem (i := i) (by omega)
        have ho1 := hx1.one_
        refine o_val (v := .pointer (some (ad1.add (i * 4)))) (x_indexAddrA (i := (i : Int)) sl_23 rfl hA1 rfl (by omega) (by omega)) ?_
        refine o_val (v := .agg (List.toArray cs1)) (x_loadS (l := cs1) Tryz.isAgg25 Tryz.sizeOf25 rfl hl1 (hF.cells0 hk1)) ?_
        refine o_call (ih _ (List.getElem_mem (l := xs) (n := i) (by omega)) _ _ _ (hF.rep hx1)) (x_call1 en_25 rfl rfl) ?_
        rintro _ w ⟨rfl, hE⟩
        replace hF := hF.ext hE
        clear hE
        refine o_val (x_assign rfl) ?_
        refine o_nil ?_
        refine e_seq ?_
        refine c_seq ?_
        refine c_region ?_
        refine o_val (x_move rfl) ?_
        refine o_val (v := .bool (!(shortT xs[i]))) (x_not rfl) ?_
        refine o_nil ?_
        refine e_seq ?_
        refine c_split (d := 38) (b := !(shortT xs[i])) rfl (fun hc4 => ?_) (fun hc4 => ?_)
        ·
          refine c_ift rfl ?_
          refine c_seq ?_
          refine c_region ?_
          refine o_val (x_assign rfl) ?_
          refine o_nil ?_
          refine e_seq ?_
          refine c_ret (e_ret (post_ret (res_1 (v := .bool false) rfl rfl) ?_))
          exact ⟨congrArg Value.bool (by rw [shortT, shortTs_mem (List.getElem_mem (l := xs) (n := i) (by omega)) (by simpa using hc4), Bool.and_false]), hF.same⟩
        ·
          refine c_iff rfl ?_
          refine c_skip ?_
          refine e_block ?_
          refine e_seq ?_
          refine c_region ?_
          refine o_val (x_move rfl) ?_
          refine o_val (v := .int .i64 (((i : Int) : Int) + 1)) (x_add rfl rfl (wrap_id (by omega) (by omega))) ?_
          refine o_val (x_assign rfl) ?_
          refine o_nil ?_
          refine e_inv ⟨_, ?_, i + 1, rfl, (by omega), (fun m hm hk => by rcases Nat.lt_or_ge m i with h | h; exact hb m h hk; obtain rfl : m = i := (by omega); simpa using hc4), ⟨rfl, rfl, trivial⟩, hF⟩
          omega
      ·
        refine c_iff rfl ?_
        refine c_exit (e_exit rfl ?_)
        refine e_seq ?_
        refine c_seq ?_
        refine c_region ?_
        refine o_val (x_assign rfl) ?_
        refine o_nil ?_
        refine e_seq ?_
        refine c_ret (e_ret (post_ret (res_1 (v := .bool true) rfl rfl) ?_))
        have h1 : ks.all (fun k => decide (k.length ≤ 1024)) = true := by
          rw [List.all_eq_true]; intro k hk; obtain ⟨q, hq, rfl⟩ := List.getElem_of_mem hk; simp only [decide_eq_true_eq]; exact ha q (by omega) hq
        exact ⟨congrArg Value.bool (by rw [shortT, h1, decide_eq_true (by omega), shortTs_all (fun m hm => hb m (by omega) hm)]; rfl), hF.same⟩
theorem short_c (x : Tree) : ShortC x := Tree.ind short_step x
set_option maxHeartbeats 1000000 in
set_option maxRecDepth 10000 in
theorem few_v (x : Tree) (most : Int) (h0 : 0 ≤ most) (h1 : most ≤ 1000000) (S : Nat → Prop) (w0 : World) (cs : List Value) (hR : Rep S w0 (treeD x) cs) : Calls Tryz.prog 9 #[.agg cs.toArray, .int .i64 most] w0 (Ret fun v w' => v = .bool (fewB x most) ∧ Same [] w0 w') := by
 have hl : cs.length = 4 := hR.length.trans (size_treeD x)
 have ho := hR.one_
 refine calls_start Tryz.func9 rfl Tryz.ntmps9 (Nat.le_of_ble_eq_true rfl) (args_2 _ _) ?_
 have hF := FR.start w0 []
 refine c_seq (c_region ?_)
 refine o_box (v := .agg (List.toArray cs)) (cs := (List.toArray cs)) hF rfl rfl ?_
 clear hF; rintro b1 w hb1 hF -
 refine o_val (x_assign rfl) (o_nil (e_seq (c_seq (c_region (o_val (v := .agg (List.toArray cs)) (x_loadS (l := cs) Tryz.isAgg25 Tryz.sizeOf25 rfl hl (hF.cellsAll 0 rfl)) (o_val (x_move rfl) ?_))))))
 refine o_call (few_c x most 0 S _ cs h0 h1 (by omega) (by omega) (hF.rep hR)) (x_call3 en_24 rfl rfl rfl rfl) ?_
 rintro _ w ⟨rfl, hE⟩
 replace hF := hF.ext hE
 clear hE
 refine o_val (x_assign rfl) (o_nil (e_seq (c_seq (c_region (o_val (x_move rfl) (o_val (v := .bool (decide ((0 : Int) ≤ (fewT most 0 x : Int)))) (x_geq rfl rfl) (o_val (x_move rfl) ?_)))))))
 refine o_splitd (d := 11) (p := (0 : Int) ≤ (fewT most 0 x : Int)) rfl (fun hg0 => ?_) (fun hg0 => ?_)
 refine o_val (v := .agg (List.toArray cs)) (x_loadS (l := cs) Tryz.isAgg25 Tryz.sizeOf25 rfl hl (hF.cellsAll 0 rfl)) ?_
 refine o_call (short_c x S _ cs (hF.rep hR)) (x_call1 en_25 rfl rfl) ?_
 rintro _ w ⟨rfl, hE⟩
 replace hF := hF.ext hE
 clear hE
 refine o_val (x_pickt rfl rfl) (o_val (x_assign rfl) (o_nil (e_seq ?_)))
 refine c_ret (e_ret (post_ret (res_1 (v := .bool (shortT x)) rfl rfl) ?_))
 refine ⟨congrArg Value.bool ?_, hF.same⟩
 unfold fewB
 first | (rw [decide_eq_true hg0]; rfl) | (rw [decide_eq_false hg0]; rfl)
 refine o_off (o_off (o_val (x_pickf rfl rfl) (o_val (x_assign rfl) (o_nil (e_seq ?_)))))
 refine c_ret (e_ret (post_ret (res_1 (v := .bool false) rfl rfl) ?_))
 refine ⟨congrArg Value.bool ?_, hF.same⟩
 unfold fewB
 first | (rw [decide_eq_true hg0]; rfl) | (rw [decide_eq_false hg0]; rfl)
set_option maxHeartbeats 1000000 in
set_option maxRecDepth 10000 in
theorem row_c (A : Option Addr) (n c : Nat) (w0 : World) : Calls Tryz.prog 17 #[.slice A n c] w0 (Ret fun v w' => v = .agg #[.int .i64 5, .string (bs []), .slice none 0 0, .slice A n c] ∧ Same [] w0 w') := by
 refine calls_start Tryz.func17 rfl Tryz.ntmps17 (Nat.le_of_ble_eq_true rfl) (args_1 _) ?_
 have hF := FR.start w0 []
 refine c_seq (c_region ?_)
 refine o_alloc (cs := #[.int .i64 (0), .string (bs ([])), .slice (none) (0) (0), .slice (none) (0) (0)]) hF Tryz.zeroValue25 rfl ?_
 clear hF; rintro b1 w hb1 hF -
 refine o_nil (e_seq (c_seq (c_region (o_val (x_move rfl) ?_))))
 refine o_val (w' := w) (v := .agg #[.int .i64 (5), .string (bs ([])), .slice (none) (0) (0), .slice (A) (n) (c)]) (by kernel_rfl) ?_
 refine o_store 0 (l := [.int .i64 (5), .string (bs ([])), .slice (none) (0) (0), .slice (A) (n) (c)]) (cs' := #[.int .i64 (5), .string (bs ([])), .slice (none) (0) (0), .slice (A) (n) (c)]) hF Tryz.sizeOf25 rfl (v := .agg #[.int .i64 (5), .string (bs ([])), .slice (none) (0) (0), .slice (A) (n) (c)]) rfl rfl (by simp [one]) rfl (Nat.le_of_ble_eq_true rfl) rfl ?_
 clear hF; rintro w hF -
 replace hF : FR w0 [] [(b1, .cells #[.int .i64 (5), .string (bs ([])), .slice (none) (0) (0), .slice (A) (n) (c)] 25)] w := hF
 refine o_nil (e_seq ?_)
 refine c_ret (e_ret (post_ret (res_c rfl (l := [.int .i64 (5), .string (bs ([])), .slice (none) (0) (0), .slice (A) (n) (c)]) rfl Tryz.isAgg25 Tryz.sizeOf25 rfl (hF.cellsAll 0 rfl)) ?_))
 exact ⟨rfl, hF.same⟩
set_option maxHeartbeats 1000000 in
set_option maxRecDepth 10000 in
theorem map_c (A : Option Addr) (n c : Nat) (B : Option Addr) (m d : Nat) (w0 : World) : Calls Tryz.prog 23 #[.slice A n c, .slice B m d] w0 (Ret fun v w' => v = .agg #[.int .i64 6, .string (bs []), .slice A n c, .slice B m d] ∧ Same [] w0 w') := by
 refine calls_start Tryz.func23 rfl Tryz.ntmps23 (Nat.le_of_ble_eq_true rfl) (args_2 _ _) ?_
 have hF := FR.start w0 []
 refine c_seq (c_region ?_)
 refine o_alloc (cs := #[.int .i64 (0), .string (bs ([])), .slice (none) (0) (0), .slice (none) (0) (0)]) hF Tryz.zeroValue25 rfl ?_
 clear hF; rintro b1 w hb1 hF -
 refine o_nil (e_seq (c_seq (c_region (o_val (x_move rfl) (o_val (x_move rfl) ?_)))))
 refine o_val (w' := w) (v := .agg #[.int .i64 (6), .string (bs ([])), .slice (A) (n) (c), .slice (B) (m) (d)]) (by kernel_rfl) ?_
 refine o_store 0 (l := [.int .i64 (6), .string (bs ([])), .slice (A) (n) (c), .slice (B) (m) (d)]) (cs' := #[.int .i64 (6), .string (bs ([])), .slice (A) (n) (c), .slice (B) (m) (d)]) hF Tryz.sizeOf25 rfl (v := .agg #[.int .i64 (6), .string (bs ([])), .slice (A) (n) (c), .slice (B) (m) (d)]) rfl rfl (by simp [one]) rfl (Nat.le_of_ble_eq_true rfl) rfl ?_
 clear hF; rintro w hF -
 replace hF : FR w0 [] [(b1, .cells #[.int .i64 (6), .string (bs ([])), .slice (A) (n) (c), .slice (B) (m) (d)] 25)] w := hF
 refine o_nil (e_seq ?_)
 refine c_ret (e_ret (post_ret (res_c rfl (l := [.int .i64 (6), .string (bs ([])), .slice (A) (n) (c), .slice (B) (m) (d)]) rfl Tryz.isAgg25 Tryz.sizeOf25 rfl (hF.cellsAll 0 rfl)) ?_))
 exact ⟨rfl, hF.same⟩
end Go.Scarf
