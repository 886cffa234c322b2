/- A part of the proof. -/
import Derived.Test.YtonoededmmohhaaGreatDoorW16
set_option linter.all false
namespace Go.Scarf
open Go.RowKit Go.Proofs
mutual
def eqT : Tree → Tree → Bool
  | .node k t ks xs, .node k' t' ks' ys => decide (k = k') && decide (t = t') && decide (ks = ks') && eqTs xs ys
def eqTs : List Tree → List Tree → Bool
  | [], [] => true
  | x :: xs, y :: ys => eqT x y && eqTs xs ys
  | _, _ => false
end
theorem eqTs_of : ∀ {xs ys : List Tree}, (∀ x ∈ xs, ∀ y, eqT x y = true ↔ x = y) → (eqTs xs ys = true ↔ xs = ys)
  | [], [], _ => by simp [eqTs]
  | [], _ :: _, _ => by simp [eqTs]
  | _ :: _, [], _ => by simp [eqTs]
  | x :: xs, y :: ys, h => by
    rw [eqTs, Bool.and_eq_true, h x (by simp) y, eqTs_of (fun z hz => h z (by simp [hz]))]
    simp
theorem eqT_iff (x : Tree) : ∀ y, eqT x y = true ↔ x = y := Tree.ind (Q := fun x => ∀ y, eqT x y = true ↔ x = y) (fun k t ks xs ih y => by
  obtain ⟨k', t', ks', ys⟩ := y
  rw [eqT, Bool.and_eq_true, Bool.and_eq_true, Bool.and_eq_true, eqTs_of ih]
  simp [and_assoc]) x
theorem eqT_self (x : Tree) : eqT x x = true := (eqT_iff x x).2 rfl
theorem eqT_no {x y : Tree} (h : x ≠ y) : eqT x y = false := by rw [Bool.eq_false_iff]; exact fun e => h ((eqT_iff x y).1 e)
instance : DecidableEq Tree := fun x y => if h : eqT x y = true then .isTrue ((eqT_iff x y).1 h) else .isFalse (fun e => h ((eqT_iff x y).2 e))
theorem take_snoc {α : Type} {xs ys : List α} {j : Nat} (h : j < xs.length) (h2 : j < ys.length) (ha : xs.take j = ys.take j) (he : xs[j] = ys[j]) : xs.take (j + 1) = ys.take (j + 1) := by
  rw [List.take_succ_eq_append_getElem h, List.take_succ_eq_append_getElem h2, ha, he]
def EqualC (x : Tree) : Prop := ∀ y S S' w0 cs ct, Rep S w0 (treeD x) cs → Rep S' w0 (treeD y) ct → Calls Tryz.prog 17 #[.agg cs.toArray, .agg ct.toArray] w0 (Ret fun v w' => v = .bool (eqT x y) ∧ Same [] w0 w')
def CloneRC (x : Tree) : Prop := ∀ S w0 cs, Rep S w0 (treeD x) cs → sizeT x ≤ 1000000000 → (keysT x ≤ 8796093022208) → NewC 12 #[.agg cs.toArray] (treeD x) w0
mutual
def fewT (left deep : Int) : Tree → Int | .node _ _ ks xs => if 60 < deep then -1 else fewTs (left - 1 - ks.length) deep xs
def fewTs (left deep : Int) : List Tree → Int | [] => left | x :: xs => if left < 0 then left else fewTs (fewT left (deep + 1) x) deep xs
end
mutual
def shortT : Tree → Bool | .node _ t ks xs => decide (t.length ≤ 2048) && ks.all (fun k => decide (k.length ≤ 1024)) && shortTs xs
def shortTs : List Tree → Bool | [] => true | x :: xs => shortT x && shortTs xs
end
def fewB (x : Tree) (most : Int) : Bool := decide (0 ≤ fewT most 0 x) && shortT x
theorem fewTs_le (deep : Int) : ∀ (xs : List Tree) (left : Int), (∀ x ∈ xs, ∀ l d : Int, 0 ≤ l → fewT l d x ≤ l) → fewTs left deep xs ≤ left
  | [], left, _ => by rw [fewTs]; exact Int.le_refl _
  | x :: xs, left, h => by
    rw [fewTs]
    split
    · exact Int.le_refl _
    · have h1 := h x (by simp) left (deep + 1) (by omega)
      have h2 := fewTs_le deep xs (fewT left (deep + 1) x) (fun y hy => h y (by simp [hy]))
      omega
theorem fewT_le (x : Tree) : ∀ l d : Int, 0 ≤ l → fewT l d x ≤ l := Tree.ind (Q := fun x => ∀ l d : Int, 0 ≤ l → fewT l d x ≤ l) (fun k t ks xs ih l d hl => by
  rw [fewT]
  split
  · omega
  · have := fewTs_le d xs (l - 1 - ks.length) ih
    omega) x
theorem fewTs_neg {left deep : Int} (h : left < 0) : ∀ xs : List Tree, fewTs left deep xs = left
  | [] => by rw [fewTs]
  | x :: xs => by rw [fewTs, if_pos h]
theorem fewT_count (x : Tree) : ∀ l d : Int, 0 ≤ l → 0 ≤ d → 0 ≤ fewT l d x → fewT l d x = l - sizeT x - keysT x ∧ d + depthT x ≤ 61 := Tree.ind (Q := fun x => ∀ l d : Int, 0 ≤ l → 0 ≤ d → 0 ≤ fewT l d x → fewT l d x = l - sizeT x - keysT x ∧ d + depthT x ≤ 61) (fun k t ks xs ih l d hl hd h => by
  rw [fewT] at h ⊢
  split at h
  · omega
  · rename_i hd60
    rw [if_neg hd60]
    have key : ∀ (ys : List Tree), (∀ y ∈ ys, y ∈ xs) → ∀ m : Int, 0 ≤ fewTs m d ys → fewTs m d ys = m - sizeTs ys - keysTs ys ∧ d + 1 + depthTs ys ≤ 61 := by
      intro ys
      induction ys with
      | nil => intro _ m hm; simp only [fewTs, sizeTs, keysTs, depthTs]; omega
      | cons y ys ihy =>
        intro hm m h0
        rw [fewTs] at h0 ⊢
        split at h0
        · omega
        · rename_i hmm
          rw [if_neg hmm]
          obtain ⟨a1, a2⟩ := ihy (fun z hz => hm z (by simp [hz])) _ h0
          have h3 : 0 ≤ fewT m (d + 1) y := by
            rcases Int.lt_or_le (fewT m (d + 1) y) 0 with hlt | hge
            · rw [fewTs_neg hlt] at h0; omega
            · exact hge
          obtain ⟨b1, b2⟩ := ih y (hm y (by simp)) m (d + 1) (by omega) (by omega) h3
          simp only [sizeTs, keysTs, depthTs]
          omega
    obtain ⟨a1, a2⟩ := key xs (fun _ h => h) _ h
    rw [sizeT, keysT, depthT]
    omega) x
theorem fewB_ok {x : Tree} {most : Int} (hm : 0 ≤ most) (h : fewB x most = true) : (sizeT x : Int) + keysT x ≤ most ∧ depthT x ≤ 61 ∧ shortT x = true := by
  unfold fewB at h
  rw [Bool.and_eq_true, decide_eq_true_eq] at h
  obtain ⟨a, b⟩ := fewT_count x most 0 hm (by omega) h.1
  exact ⟨by omega, by omega, h.2⟩
theorem short_ok (x : Tree) : shortT x = true → okT x := Tree.ind (Q := fun x => shortT x = true → okT x) (fun k t ks xs ih h => by
  rw [shortT, Bool.and_eq_true, Bool.and_eq_true, decide_eq_true_eq, List.all_eq_true] at h
  rw [okT]
  refine ⟨by omega, fun k hk => by have := h.1.2 k hk; simp only [decide_eq_true_eq] at this; omega, ?_⟩
  have key : ∀ ys : List Tree, (∀ y ∈ ys, y ∈ xs) → shortTs ys = true → okTs ys := by
    intro ys
    induction ys with
    | nil => intro _ _; rw [okTs]; trivial
    | cons y ys ihy =>
      intro hm hs
      rw [shortTs, Bool.and_eq_true] at hs
      rw [okTs]
      exact ⟨ih y (hm y (by simp)) hs.1, ihy (fun z hz => hm z (by simp [hz])) hs.2⟩
  exact key xs (fun _ h => h) h.2) x
theorem fewTs_drop {left deep : Int} {xs : List Tree} {j : Nat} (h : j < xs.length) (h0 : ¬ left < 0) : fewTs left deep (xs.drop j) = fewTs (fewT left (deep + 1) xs[j]) deep (xs.drop (j + 1)) := by
  rw [List.drop_eq_getElem_cons h, fewTs, if_neg h0]
def FewC (x : Tree) : Prop := ∀ (left deep : Int) S w0 cs, 0 ≤ left → left ≤ 1000000 → 0 ≤ deep → deep ≤ 61 → Rep S w0 (treeD x) cs → Calls Tryz.prog 26 #[.agg cs.toArray, .int .i64 left, .int .i64 deep] w0 (Ret fun v w' => v = .int .i64 (fewT left deep x) ∧ Same [] w0 w')
def ShortC (x : Tree) : Prop := ∀ S w0 cs, Rep S w0 (treeD x) cs → Calls Tryz.prog 27 #[.agg cs.toArray] w0 (Ret fun v w' => v = .bool (shortT x) ∧ Same [] w0 w')
theorem shortTs_mem {xs : List Tree} {x : Tree} (h : x ∈ xs) (hs : shortT x = false) : shortTs xs = false := by
  induction xs with
  | nil => cases h
  | cons y ys ih =>
    rw [shortTs]
    rcases List.mem_cons.1 h with rfl | h
    · rw [hs]; rfl
    · rw [ih h, Bool.and_false]
theorem shortTs_all {xs : List Tree} (h : ∀ j (hj : j < xs.length), shortT xs[j] = true) : shortTs xs = true := by
  induction xs with
  | nil => rfl
  | cons y ys ih =>
    have h0 : shortT y = true := h 0 (by simp)
    rw [shortTs, h0, Bool.true_and]
    exact ih (fun j hj => by have := h (j + 1) (by simpa using hj); simpa using this)
set_option maxHeartbeats 4000000 in
set_option maxRecDepth 10000 in
theorem equal_step (k : Int) (t : Str) (ks : List Str) (xs : List Tree) (ih : ∀ x, x ∈ xs → EqualC x) : EqualC (.node k t ks xs) := by
 rintro ⟨k', t', ks', ys⟩ S S' w0 cs ct hR hR'
 obtain ⟨A, c, B, e, rfl, -, -, hK, hX⟩ := hR.tree_inv
 obtain ⟨A', c', B', e', rfl, -, -, hK', hY⟩ := hR'.tree_inv
 have hXl := hX.slice_len
 have hKl := hK.slice_len
 have hYl := hY.slice_len
 have hKl' := hK'.slice_len
 refine calls_start Tryz.func17 rfl Tryz.ntmps17 (Nat.le_of_ble_eq_true rfl) (args_2 _ _) ?_
 have hF := FR.start w0 []
 refine c_seq (c_region ?_)
 refine o_box (v := .agg #[.int .i64 (k), .string (bs (t)), .slice (A) (ks.length) (c), .slice (B) (xs.length) (e)]) (cs := #[.int .i64 (k), .string (bs (t)), .slice (A) (ks.length) (c), .slice (B) (xs.length) (e)]) hF rfl rfl ?_
 clear hF; rintro b1 w hb1 hF -
 refine o_box (v := .agg #[.int .i64 (k'), .string (bs (t')), .slice (A') (ks'.length) (c'), .slice (B') (ys.length) (e')]) (cs := #[.int .i64 (k'), .string (bs (t')), .slice (A') (ks'.length) (c'), .slice (B') (ys.length) (e')]) hF rfl rfl ?_
 clear hF; rintro b2 w hb2 hF -
 refine o_val (x_assign rfl) (o_nil (e_seq (c_seq (c_seq (c_region (o_val (v := .pointer (some ⟨b1, 0, none⟩)) (x_fieldAddrO fa_32_0 rfl) (o_val (v := .int .i64 (k)) (x_load Tryz.isAgg3 rfl (hF.cell 1 rfl rfl)) (o_val (v := .pointer (some ⟨b2, 0, none⟩)) (x_fieldAddrO fa_32_0 rfl) (o_val (v := .int .i64 (k')) (x_load Tryz.isAgg3 rfl (hF.cell 0 rfl rfl)) (o_val (v := .bool (decide ((k : Int) ≠ (k' : Int)))) (x_neq rfl rfl) (o_val (x_move rfl) ?_)))))))))))
 refine o_splitd (d := 13) (p := (k : Int) ≠ (k' : Int)) rfl (fun hg0 => ?_) (fun hg0 => ?_)
 refine o_off (o_off (o_off (o_off (o_off (o_val (x_pickt rfl rfl) (o_val (x_move rfl) (o_off (o_off (o_off (o_off (o_off (o_off (o_off ?_)))))))))))))
 refine o_val (x_pickt rfl rfl) (o_val (x_move rfl) (o_off (o_off (o_off (o_off (o_off (o_off (o_off (o_val (x_pickt rfl rfl) (o_nil (e_seq (c_ift rfl (c_seq ?_)))))))))))))
 refine c_region (o_val (x_assign rfl) (o_nil (e_seq ?_)))
 refine c_ret (e_ret (post_ret (res_1 (v := .bool false) rfl rfl) ?_))
 refine ⟨congrArg Value.bool (eqT_no (fun he => ?_)).symm, hF.same⟩; cases he; first | exact absurd rfl (by assumption) | (simp only [eqT_self] at hc4; cases hc4)
 refine o_val (v := .pointer (some ⟨b1, 1, none⟩)) (x_fieldAddrO fa_32_1 rfl) (o_val (v := .string (bs (t))) (x_load Tryz.isAgg9 rfl (hF.cell 1 rfl rfl)) (o_val (v := .pointer (some ⟨b2, 1, none⟩)) (x_fieldAddrO fa_32_1 rfl) (o_val (v := .string (bs (t'))) (x_load Tryz.isAgg9 rfl (hF.cell 0 rfl rfl)) (o_val (v := .bool (decide ((t : Str) ≠ t'))) (x_neqs rfl rfl) (o_val (x_pickf rfl rfl) (o_val (x_move rfl) ?_))))))
 refine o_splitd (d := 20) (p := (t : Str) ≠ t') rfl (fun hg1 => ?_) (fun hg1 => ?_)
 refine o_off (o_off (o_off (o_off (o_off (o_off (o_off (o_val (x_pickt rfl rfl) (o_val (x_move rfl) (o_off (o_off (o_off (o_off (o_off ?_)))))))))))))
 refine o_off (o_off (o_val (x_pickt rfl rfl) (o_nil (e_seq (c_ift rfl (c_seq (c_region (o_val (x_assign rfl) (o_nil (e_seq ?_))))))))))
 refine c_ret (e_ret (post_ret (res_1 (v := .bool false) rfl rfl) ?_))
 refine ⟨congrArg Value.bool (eqT_no (fun he => ?_)).symm, hF.same⟩; cases he; first | exact absurd rfl (by assumption) | (simp only [eqT_self] at hc4; cases hc4)
 refine o_val (v := .pointer (some ⟨b1, 2, none⟩)) (x_fieldAddrO fa_32_2 rfl) (o_val (v := .slice (A) (ks.length) (c)) (x_load Tryz.isAgg22 rfl (hF.cell 1 rfl rfl)) (o_val (v := .int .i64 ((ks.length : Nat))) (x_len_slice Tryz.underlying22 rfl) (o_val (v := .pointer (some ⟨b2, 2, none⟩)) (x_fieldAddrO fa_32_2 rfl) (o_val (v := .slice (A') (ks'.length) (c')) (x_load Tryz.isAgg22 rfl (hF.cell 0 rfl rfl)) (o_val (v := .int .i64 ((ks'.length : Nat))) (x_len_slice Tryz.underlying22 rfl) (o_val (v := .bool (decide (((ks.length : Nat) : Int) ≠ ((ks'.length : Nat) : Int)))) (x_neq rfl rfl) (o_val (x_pickf rfl rfl) (o_val (x_move rfl) ?_))))))))
 refine o_splitd (d := 29) (p := ((ks.length : Nat) : Int) ≠ ((ks'.length : Nat) : Int)) rfl (fun hg2 => ?_) (fun hg2 => ?_)
 refine o_off (o_off (o_off (o_off (o_off (o_off (o_off (o_val (x_pickt rfl rfl) (o_nil (e_seq (c_ift rfl (c_seq (c_region (o_val (x_assign rfl) ?_)))))))))))))
 refine o_nil (e_seq ?_)
 refine c_ret (e_ret (post_ret (res_1 (v := .bool false) rfl rfl) ?_))
 refine ⟨congrArg Value.bool (eqT_no (fun he => ?_)).symm, hF.same⟩; cases he; first | exact absurd rfl (by assumption) | (simp only [eqT_self] at hc4; cases hc4)
 refine o_val (v := .pointer (some ⟨b1, 3, none⟩)) (x_fieldAddrO fa_32_3 rfl) (o_val (v := .slice (B) (xs.length) (e)) (x_load Tryz.isAgg30 rfl (hF.cell 1 rfl rfl)) (o_val (v := .int .i64 ((xs.length : Nat))) (x_len_slice Tryz.underlying30 rfl) (o_val (v := .pointer (some ⟨b2, 3, none⟩)) (x_fieldAddrO fa_32_3 rfl) (o_val (v := .slice (B') (ys.length) (e')) (x_load Tryz.isAgg30 rfl (hF.cell 0 rfl rfl)) (o_val (v := .int .i64 ((ys.length : Nat))) (x_len_slice Tryz.underlying30 rfl) (o_val (v := .bool (decide (((xs.length : Nat) : Int) ≠ ((ys.length : Nat) : Int)))) (x_neq rfl rfl) (o_val (x_pickf rfl rfl) (o_nil (e_seq ?_)))))))))
 refine c_splitd (d := 37) (p := ((xs.length : Nat) : Int) ≠ ((ys.length : Nat) : Int)) rfl (fun hc0 => ?_) (fun hc0 => ?_)
 refine c_ift rfl (c_seq (c_region (o_val (x_assign rfl) (o_nil (e_seq ?_)))))
 refine c_ret (e_ret (post_ret (res_1 (v := .bool false) rfl rfl) ?_))
 refine ⟨congrArg Value.bool (eqT_no (fun he => ?_)).symm, hF.same⟩; cases he; first | exact absurd rfl (by assumption) | (simp only [eqT_self] at hc4; cases hc4)
 refine c_iff rfl (c_skip (e_seq (c_seq (c_seq (c_region (o_val (x_assign rfl) (o_nil (e_seq (c_block ?_)))))))))
 refine c_loop (fun μ σ w => ∃ (j : Nat), μ = ks.length - j ∧ (j ≤ ks.length) ∧ (ks.take j = ks'.take j) ∧ AllEq σ [(2, .pointer (some ⟨b1, 0, none⟩)), (3, .pointer (some ⟨b2, 0, none⟩)), (5, .int .i64 ((j : Int)))] ∧ FR w0 [] [(b2, .cells #[.int .i64 (k'), .string (bs (t')), .slice (A') (ks'.length) (c'), .slice (B') (ys.length) (e')] 32), (b1, .cells #[.int .i64 (k), .string (bs (t)), .slice (A) (ks.length) (c), .slice (B) (xs.length) (e)] 32)] w) _ ⟨0, rfl, (Nat.zero_le _), (by simp), ⟨rfl, rfl, rfl, trivial⟩, hF⟩ ?_
 clear hF; rintro μ σ w ⟨j, rfl, hj, ha, hs, hF⟩
 refine Cg.slots hs ?_
 clear hs; intro σ
 refine c_seq (c_seq (c_region (o_val (x_move rfl) (o_val (v := .pointer (some ⟨b1, 2, none⟩)) (x_fieldAddrO fa_32_2 rfl) (o_val (v := .slice (A) (ks.length) (c)) (x_load Tryz.isAgg22 rfl (hF.cell 1 rfl rfl)) (o_val (v := .int .i64 ((ks.length : Nat))) (x_len_slice Tryz.underlying22 rfl) (o_val (v := .bool (decide (((j : Int) : Int) < ((ks.length : Nat) : Int)))) (x_lss rfl rfl) (o_nil (e_seq ?_)))))))))
 refine c_splitd (d := 42) (p := ((j : Int) : Int) < ((ks.length : Nat) : Int)) rfl (fun hc1 => ?_) (fun hc1 => ?_)
 refine c_ift rfl (c_skip (e_seq (c_seq (c_block (c_seq ?_)))))
 refine c_drawF [] (.free 0 (.free 1 (.free 2 (.free 3 (.free 4 (.free 5 (.free 6 (.free 7 (.free 8 (.free 9 (.free 10 .nil))))))))))) (by kernel_rfl) hF (by kernel_rfl) (by kernel_rfl) ?_
 clear hF; rintro w hF -
 refine ⟨fun wq => FR w0 [] [(b2, .cells #[.int .i64 (k'), .string (bs (t')), .slice (A') (ks'.length) (c'), .slice (B') (ys.length) (e')] 32), (b1, .cells #[.int .i64 (k), .string (bs (t)), .slice (A) (ks.length) (c), .slice (B) (xs.length) (e)] 32)] wq, hF, ?_⟩
 refine f_free rfl (v := .pointer (some ⟨b1, 2, none⟩)) (fun w hC => x_fieldAddrO fa_32_2 rfl) (f_free rfl (v := .slice (A) (ks.length) (c)) (fun w hC => x_load Tryz.isAgg22 rfl (hC.cell 1 rfl rfl)) (f_free rfl (v := .int .i64 ((j : Int))) (fun w hC => x_move rfl) ?_))
 obtain ⟨ad3, hA3, hk3, hx3⟩ := hK.str_elem (i := j) (by omega)
 refine f_free rfl (v := .pointer (some (ad3.add (j * 1)))) (fun w hC => x_indexAddrA (i := (j : Int)) sl_22 rfl hA3 rfl (by omega) (by omega)) (f_free rfl (v := .string (bs (ks[j]))) (fun w hC => x_load Tryz.isAgg9 rfl (hC.cell0 hk3)) (f_free rfl (v := .pointer (some ⟨b2, 2, none⟩)) (fun w hC => x_fieldAddrO fa_32_2 rfl) (f_free rfl (v := .slice (A') (ks'.length) (c')) (fun w hC => x_load Tryz.isAgg22 rfl (hC.cell 0 rfl rfl)) (f_free rfl (v := .int .i64 ((j : Int))) (fun w hC => x_move rfl) ?_))))
 obtain ⟨ad4, hA4, hk4, hx4⟩ := hK'.str_elem (i := j) (by omega)
 refine f_free rfl (v := .pointer (some (ad4.add (j * 1)))) (fun w hC => x_indexAddrA (i := (j : Int)) sl_22 rfl hA4 rfl (by omega) (by omega)) (f_free rfl (v := .string (bs (ks'[j]))) (fun w hC => x_load Tryz.isAgg9 rfl (hC.cell0 hk4)) (f_free rfl (v := .bool (decide ((ks[j] : Str) ≠ ks'[j]))) (fun w hC => x_neqs rfl rfl) (d_nil (e_seq ?_))))
 refine c_splitd (d := 55) (p := (ks[j] : Str) ≠ ks'[j]) rfl (fun hc2 => ?_) (fun hc2 => ?_)
 refine c_ift rfl (c_seq (c_region (o_val (x_assign rfl) (o_nil (e_seq ?_)))))
 refine c_ret (e_ret (post_ret (res_1 (v := .bool false) rfl rfl) ?_))
 refine ⟨congrArg Value.bool (eqT_no (fun he => ?_)).symm, hF.same⟩; cases he; first | exact absurd rfl (by assumption) | (simp only [eqT_self] at hc4; cases hc4)
 refine c_iff rfl (c_skip (e_block (e_seq (c_region (o_val (x_move rfl) (o_val (v := .int .i64 (((j : Int) : Int) + 1)) (x_add rfl rfl (wrap_id (by omega) (by omega))) (o_val (x_assign rfl) (o_nil ?_))))))))
 refine e_inv ⟨_, ?_, j + 1, rfl, (by omega), (take_snoc (by omega) (by omega) ha (by simpa using hc2)), ⟨rfl, rfl, rfl, trivial⟩, hF⟩
 omega
 refine c_iff rfl ?_
 refine c_exit (e_exit rfl ?_)
 refine e_seq (c_seq (c_seq (c_region (o_val (x_assign rfl) (o_nil (e_seq (c_block ?_)))))))
 refine c_loop (fun μ σ w => ∃ (i : Nat), μ = xs.length - i ∧ (i ≤ xs.length) ∧ (xs.take i = ys.take i) ∧ AllEq σ [(2, .pointer (some ⟨b1, 0, none⟩)), (3, .pointer (some ⟨b2, 0, none⟩)), (6, .int .i64 ((i : Int)))] ∧ FR w0 [] [(b2, .cells #[.int .i64 (k'), .string (bs (t')), .slice (A') (ks'.length) (c'), .slice (B') (ys.length) (e')] 32), (b1, .cells #[.int .i64 (k), .string (bs (t)), .slice (A) (ks.length) (c), .slice (B) (xs.length) (e)] 32)] w) _ ⟨0, rfl, (Nat.zero_le _), (by simp), ⟨rfl, rfl, rfl, trivial⟩, hF⟩ ?_
 clear hF; rintro μ σ w ⟨i, rfl, hi, hb, hs, hF⟩
 refine Cg.slots hs ?_
 clear hs; intro σ
 have hke : ks = ks' := by rw [List.take_of_length_le (by omega), List.take_of_length_le (by omega)] at ha; exact ha
 refine c_seq (c_seq (c_region (o_val (x_move rfl) (o_val (v := .pointer (some ⟨b1, 3, none⟩)) (x_fieldAddrO fa_32_3 rfl) (o_val (v := .slice (B) (xs.length) (e)) (x_load Tryz.isAgg30 rfl (hF.cell 1 rfl rfl)) (o_val (v := .int .i64 ((xs.length : Nat))) (x_len_slice Tryz.underlying30 rfl) (o_val (v := .bool (decide (((i : Int) : Int) < ((xs.length : Nat) : Int)))) (x_lss rfl rfl) (o_nil (e_seq ?_)))))))))
 refine c_splitd (d := 60) (p := ((i : Int) : Int) < ((xs.length : Nat) : Int)) rfl (fun hc3 => ?_) (fun hc3 => ?_)
 refine c_ift rfl (c_skip (e_seq (c_seq (c_block (c_seq ?_)))))
 refine c_drawF [] (.free 0 (.free 1 (.free 2 (.free 3 (.free 4 (.free 5 (.free 6 (.free 7 (.free 8 (.free 9 (.act 10 (.free 11 .nil)))))))))))) (by kernel_rfl) hF (by kernel_rfl) (by kernel_rfl) ?_
 clear hF; rintro w hF -
 refine ⟨fun wq => FR w0 [] [(b2, .cells #[.int .i64 (k'), .string (bs (t')), .slice (A') (ks'.length) (c'), .slice (B') (ys.length) (e')] 32), (b1, .cells #[.int .i64 (k), .string (bs (t)), .slice (A) (ks.length) (c), .slice (B) (xs.length) (e)] 32)] wq, hF, ?_⟩
 refine f_free rfl (v := .pointer (some ⟨b1, 3, none⟩)) (fun w hC => x_fieldAddrO fa_32_3 rfl) (f_free rfl (v := .slice (B) (xs.length) (e)) (fun w hC => x_load Tryz.isAgg30 rfl (hC.cell 1 rfl rfl)) (f_free rfl (v := .int .i64 ((i : Int))) (fun w hC => x_move rfl) ?_))
 obtain ⟨ad5, cs5, hA5, hl5, hk5, hx5⟩ := hX.tree_elem (i := i) (by omega)
 have ho5 := hx5.one_
 refine f_free rfl (v := .pointer (some (ad5.add (i * 4)))) (fun w hC => x_indexAddrA (i := (i : Int)) sl_30 rfl hA5 rfl (by omega) (by omega)) (f_free rfl (v := .agg (List.toArray cs5)) (fun w hC => x_loadS (l := cs5) Tryz.isAgg32 Tryz.sizeOf32 rfl hl5 (hC.cells0 hk5)) (f_free rfl (v := .pointer (some ⟨b2, 3, none⟩)) (fun w hC => x_fieldAddrO fa_32_3 rfl) (f_free rfl (v := .slice (B') (ys.length) (e')) (fun w hC => x_load Tryz.isAgg30 rfl (hC.cell 0 rfl rfl)) (f_free rfl (v := .int .i64 ((i : Int))) (fun w hC => x_move rfl) ?_))))
 obtain ⟨ad6, cs6, hA6, hl6, hk6, hx6⟩ := hY.tree_elem (i := i) (by omega)
 have ho6 := hx6.one_
 refine f_free rfl (v := .pointer (some (ad6.add (i * 4)))) (fun w hC => x_indexAddrA (i := (i : Int)) sl_30 rfl hA6 rfl (by omega) (by omega)) (f_free rfl (v := .agg (List.toArray cs6)) (fun w hC => x_loadS (l := cs6) Tryz.isAgg32 Tryz.sizeOf32 rfl hl6 (hC.cells0 hk6)) ?_)
 refine f_call rfl (ih _ (List.getElem_mem (l := xs) (n := i) (by omega)) ys[i] _ _ _ _ _ (hF.rep hx5) (hF.rep hx6)) (x_call2 en_17 rfl rfl rfl) ?_
 rintro _ w ⟨rfl, hE⟩
 replace hF := hF.ext hE
 clear hE
 refine ⟨hF, ?_⟩
 refine f_free rfl (v := .bool (eqT xs[i] ys[i])) (fun w hC => x_assign rfl) (d_nil (e_seq (c_seq (c_region (o_val (x_move rfl) (o_val (v := .bool (!(eqT xs[i] ys[i]))) (x_not rfl) (o_nil (e_seq ?_))))))))
 refine c_split (d := 75) (b := !(eqT xs[i] ys[i])) rfl (fun hc4 => ?_) (fun hc4 => ?_)
 refine c_ift rfl (c_seq (c_region (o_val (x_assign rfl) (o_nil (e_seq ?_)))))
 refine c_ret (e_ret (post_ret (res_1 (v := .bool false) rfl rfl) ?_))
 refine ⟨congrArg Value.bool (eqT_no (fun he => ?_)).symm, hF.same⟩; cases he; first | exact absurd rfl (by assumption) | (simp only [eqT_self] at hc4; cases hc4)
 refine c_iff rfl (c_skip (e_block (e_seq (c_region (o_val (x_move rfl) (o_val (v := .int .i64 (((i : Int) : Int) + 1)) (x_add rfl rfl (wrap_id (by omega) (by omega))) (o_val (x_assign rfl) (o_nil ?_))))))))
 refine e_inv ⟨_, ?_, i + 1, rfl, (by omega), (take_snoc (by omega) (by omega) hb ((eqT_iff _ _).1 (by simpa using hc4))), ⟨rfl, rfl, rfl, trivial⟩, hF⟩
 omega
 refine c_iff rfl ?_
 refine c_exit (e_exit rfl ?_)
 refine e_seq (c_seq (c_region (o_val (x_assign rfl) (o_nil (e_seq ?_)))))
 refine c_ret (e_ret (post_ret (res_1 (v := .bool true) rfl rfl) ?_))
 have e3 : xs = ys := (by have h1 := hb; rw [List.take_of_length_le (by omega)] at h1; rw [List.take_of_length_le (by omega)] at h1; exact h1); have e1 : k = k' := Classical.not_not.1 hg0; have e2 : t = t' := Classical.not_not.1 hg1; subst hke e3 e1 e2; exact ⟨congrArg Value.bool (eqT_self _).symm, hF.same⟩
theorem equal_c (x : Tree) : EqualC x := Tree.ind equal_step x
set_option maxHeartbeats 1000000 in
set_option maxRecDepth 10000 in
theorem few_step (k : Int) (t : Str) (ks : List Str) (xs : List Tree) (ih : ∀ x, x ∈ xs → FewC x) : FewC (.node k t ks xs) := by
 intro left deep S w0 cs h0 h1 h2 h3 hR
 obtain ⟨A, c, B, e, rfl, -, -, hK, hX⟩ := hR.tree_inv
 have hXl := hX.slice_len
 have hKl := hK.slice_len
 refine calls_start Tryz.func26 rfl Tryz.ntmps26 (Nat.le_of_ble_eq_true rfl) (args_3 _ _ _) ?_
 have hF := FR.start w0 []
 refine c_seq (c_region ?_)
 refine o_box (v := .agg #[.int .i64 (k), .string (bs (t)), .slice (A) (ks.length) (c), .slice (B) (xs.length) (e)]) (cs := #[.int .i64 (k), .string (bs (t)), .slice (A) (ks.length) (c), .slice (B) (xs.length) (e)]) hF rfl rfl ?_
 clear hF; rintro b1 w hb1 hF -
 refine o_val (x_assign rfl) (o_nil (e_seq (c_seq (c_seq (c_region (o_val (x_move rfl) (o_val (v := .bool (decide ((60 : Int) < (deep : Int)))) (x_gtr rfl rfl) (o_nil (e_seq ?_)))))))))
 refine c_splitd (d := 9) (p := (60 : Int) < (deep : Int)) rfl (fun hc0 => ?_) (fun hc0 => ?_)
 refine c_ift rfl (c_seq (c_region (o_val (x_assign rfl) (o_nil (e_seq ?_)))))
 refine c_ret (e_ret (post_ret (res_1 (v := .int .i64 ((-1))) rfl rfl) ?_))
 exact ⟨congrArg (Value.int .i64) (by rw [fewT, if_pos (by omega)]), hF.same⟩
 refine c_iff rfl (c_skip (e_seq (c_seq (c_region (o_val (x_move rfl) (o_val (v := .int .i64 ((left : Int) - 1)) (x_sub rfl rfl (wrap_id (by omega) (by omega))) (o_val (v := .pointer (some ⟨b1, 2, none⟩)) (x_fieldAddrO fa_32_2 rfl) (o_val (v := .slice (A) (ks.length) (c)) (x_load Tryz.isAgg22 rfl (hF.cell 0 rfl rfl)) (o_val (v := .int .i64 ((ks.length : Nat))) (x_len_slice Tryz.underlying22 rfl) (o_val (v := .int .i64 (((left : Int) - 1 : Int) - (ks.length : Nat))) (x_sub rfl rfl (wrap_id (by omega) (by omega))) (o_val (x_assign rfl) (o_nil (e_seq ?_)))))))))))))
 refine c_seq (c_seq (c_region (o_val (x_assign rfl) (o_nil (e_seq (c_block ?_))))))
 refine c_loop (fun μ σ w => ∃ (j : Nat), ∃ (lf : Int), μ = xs.length - j ∧ (j ≤ xs.length) ∧ (lf ≤ 1000000) ∧ (fewTs (left - 1 - ks.length) deep xs = fewTs lf deep (xs.drop j)) ∧ AllEq σ [(1, .int .i64 (lf)), (2, .int .i64 (deep)), (3, .pointer (some ⟨b1, 0, none⟩)), (7, .int .i64 ((j : Int)))] ∧ FR w0 [] [(b1, .cells #[.int .i64 (k), .string (bs (t)), .slice (A) (ks.length) (c), .slice (B) (xs.length) (e)] 32)] w) _ ⟨0, (left - 1 - ks.length), rfl, (Nat.zero_le _), (by omega), (by simp), ⟨rfl, rfl, rfl, rfl, trivial⟩, hF⟩ ?_
 clear hF; rintro μ σ w ⟨j, lf, rfl, hj, hlf, hf, hs, hF⟩
 refine Cg.slots hs ?_
 clear hs; intro σ
 refine c_seq (c_seq (c_region (o_val (x_move rfl) (o_val (v := .pointer (some ⟨b1, 3, none⟩)) (x_fieldAddrO fa_32_3 rfl) (o_val (v := .slice (B) (xs.length) (e)) (x_load Tryz.isAgg30 rfl (hF.cell 0 rfl rfl)) (o_val (v := .int .i64 ((xs.length : Nat))) (x_len_slice Tryz.underlying30 rfl) (o_val (v := .bool (decide (((j : Int) : Int) < ((xs.length : Nat) : Int)))) (x_lss rfl rfl) (o_val (x_move rfl) ?_))))))))
 refine o_splitd (d := 21) (p := ((j : Int) : Int) < ((xs.length : Nat) : Int)) rfl (fun hg0 => ?_) (fun hg0 => ?_)
 refine o_val (x_move rfl) (o_val (v := .bool (decide ((0 : Int) ≤ (lf : Int)))) (x_geq rfl rfl) (o_val (x_pickt rfl rfl) (o_nil (e_seq ?_))))
 refine c_splitd (d := 24) (p := (0 : Int) ≤ (lf : Int)) rfl (fun hc1 => ?_) (fun hc1 => ?_)
 refine c_ift rfl (c_skip (e_seq (c_seq (c_block (c_region (o_val (v := .pointer (some ⟨b1, 3, none⟩)) (x_fieldAddrO fa_32_3 rfl) (o_val (v := .slice (B) (xs.length) (e)) (x_load Tryz.isAgg30 rfl (hF.cell 0 rfl rfl)) (o_val (x_move rfl) ?_))))))))
 obtain ⟨ad1, cs1, hA1, hl1, hk1, hx1⟩ := hX.tree_elem (i := j) (by omega)
 have ho1 := hx1.one_
 refine o_val (v := .pointer (some (ad1.add (j * 4)))) (x_indexAddrA (i := (j : Int)) sl_30 rfl hA1 rfl (by omega) (by omega)) (o_val (v := .agg (List.toArray cs1)) (x_loadS (l := cs1) Tryz.isAgg32 Tryz.sizeOf32 rfl hl1 (hF.cells0 hk1)) (o_val (x_move rfl) (o_val (x_move rfl) (o_val (v := .int .i64 ((deep : Int) + 1)) (x_add rfl rfl (wrap_id (by omega) (by omega))) ?_))))
 refine o_call (ih _ (List.getElem_mem (l := xs) (n := j) (by omega)) lf (deep + 1) _ _ _ (by omega) (by omega) (by omega) (by omega) (hF.rep hx1)) (x_call3 en_26 rfl rfl rfl rfl) ?_
 rintro _ w ⟨rfl, hE⟩
 replace hF := hF.ext hE
 clear hE
 refine o_val (x_assign rfl) (o_nil (e_block (e_seq (c_region (o_val (x_move rfl) (o_val (v := .int .i64 (((j : Int) : Int) + 1)) (x_add rfl rfl (wrap_id (by omega) (by omega))) (o_val (x_assign rfl) (o_nil ?_))))))))
 refine e_inv ⟨_, ?_, j + 1, fewT lf (deep + 1) xs[j], rfl, (by omega), (by have := fewT_le xs[j] lf (deep + 1) (by omega); omega), (hf.trans (fewTs_drop (by omega) (by omega))), ⟨rfl, rfl, rfl, rfl, trivial⟩, hF⟩
 omega
 refine c_iff rfl ?_
 refine c_exit (e_exit rfl ?_)
 refine e_seq (c_seq (c_region (o_val (x_move rfl) (o_val (x_assign rfl) (o_nil (e_seq ?_))))))
 refine c_ret (e_ret (post_ret (res_1 (v := .int .i64 (lf)) rfl rfl) ?_))
 refine ⟨congrArg (Value.int .i64) ?_, hF.same⟩
 rw [fewT, if_neg (by omega), hf]
 · first | (rw [List.drop_eq_nil_of_le (by omega), fewTs]; done) | (rw [fewTs_neg (by omega)])
 refine o_off (o_off (o_val (x_pickf rfl rfl) (o_nil (e_seq (c_iff rfl ?_)))))
 refine c_exit (e_exit rfl ?_)
 refine e_seq (c_seq (c_region (o_val (x_move rfl) (o_val (x_assign rfl) (o_nil (e_seq ?_))))))
 refine c_ret (e_ret (post_ret (res_1 (v := .int .i64 (lf)) rfl rfl) ?_))
 refine ⟨congrArg (Value.int .i64) ?_, hF.same⟩
 rw [fewT, if_neg (by omega), hf]
 · first | (rw [List.drop_eq_nil_of_le (by omega), fewTs]; done) | (rw [fewTs_neg (by omega)])
theorem few_c (x : Tree) : FewC x := Tree.ind few_step x
set_option maxHeartbeats 1000000 in
set_option maxRecDepth 10000 in
theorem short_step (k : Int) (t : Str) (ks : List Str) (xs : List Tree) (ih : ∀ x, x ∈ xs → ShortC x) : ShortC (.node k t ks xs) := by
  intro S w0 cs hR
  obtain ⟨A, c, B, e, rfl, -, -, hK, hX⟩ := hR.tree_inv
  have hXl := hX.slice_len
  have hKl := hK.slice_len
  refine calls_start Tryz.func27 rfl Tryz.ntmps27 (Nat.le_of_ble_eq_true rfl) (args_1 _) ?_
  have hF := FR.start w0 []
  refine c_seq ?_
  refine c_region ?_
  refine o_box (v := .agg #[.int .i64 (k), .string (bs (t)), .slice (A) (ks.length) (c), .slice (B) (xs.length) (e)]) (cs := #[.int .i64 (k), .string (bs (t)), .slice (A) (ks.length) (c), .slice (B) (xs.length) (e)]) hF rfl rfl ?_
  clear hF; intro b1 w hb1 hF hE
  clear hE
  refine o_val (x_assign rfl) ?_
  refine o_nil ?_
  refine e_seq ?_
  refine c_seq ?_
  refine c_seq ?_
  refine c_region ?_
  refine o_val (v := .pointer (some ⟨b1, 1, none⟩)) (x_fieldAddrO fa_32_1 rfl) ?_
  refine o_val (v := .string (bs (t))) (x_load Tryz.isAgg9 rfl (hF.cell 0 rfl rfl)) ?_
  refine o_val (v := .int .i64 ((((t) : Str).length : Int))) (x_len_string Tryz.underlying9 rfl) ?_
  refine o_val (v := .bool (decide ((2048 : Int) < ((((t) : Str).length : Int) : Int)))) (x_gtr rfl rfl) ?_
  refine o_nil ?_
  refine e_seq ?_
  refine c_splitd (d := 9) (p := (2048 : Int) < ((((t) : Str).length : Int) : Int)) rfl (fun hc0 => ?_) (fun hc0 => ?_)
  ·
    refine c_ift rfl ?_
    refine c_seq ?_
    refine c_region ?_
    refine o_val (x_assign rfl) ?_
    refine o_nil ?_
    refine e_seq ?_
    refine c_ret (e_ret (post_ret (res_1 (v := .bool false) rfl rfl) ?_))
    exact ⟨congrArg Value.bool (by rw [shortT, decide_eq_false (by omega)]; rfl), hF.same⟩
  ·
    refine c_iff rfl ?_
    refine c_skip ?_
    refine e_seq ?_
    refine c_seq ?_
    refine c_seq ?_
    refine c_region ?_
    refine o_val (x_assign rfl) ?_
    refine o_nil ?_
    refine e_seq ?_
    refine c_block ?_
    refine c_loop (fun μ σ w => ∃ (j : Nat), μ = ks.length - j ∧ (j ≤ ks.length) ∧ (∀ i (hi : i < j) (hk : i < ks.length), ks[i].length ≤ 1024) ∧ AllEq σ [(1, .pointer (some ⟨b1, 0, none⟩)), (3, .int .i64 ((j : Int)))] ∧ FR w0 [] [(b1, .cells #[.int .i64 (k), .string (bs (t)), .slice (A) (ks.length) (c), .slice (B) (xs.length) (e)] 32)] w) _ ⟨0, rfl, (Nat.zero_le _), (fun i hi => absurd hi (by omega)), ⟨rfl, rfl, trivial⟩, hF⟩ ?_
    clear hF; rintro μ σ w ⟨j, rfl, hj, ha, hs, hF⟩
    refine Cg.slots hs ?_
    clear hs; intro σ
    refine c_seq ?_
    refine c_seq ?_
    refine c_region ?_
    refine o_val (x_move rfl) ?_
    refine o_val (v := .pointer (some ⟨b1, 2, none⟩)) (x_fieldAddrO fa_32_2 rfl) ?_
    refine o_val (v := .slice (A) (ks.length) (c)) (x_load Tryz.isAgg22 rfl (hF.cell 0 rfl rfl)) ?_
    refine o_val (v := .int .i64 ((ks.length : Nat))) (x_len_slice Tryz.underlying22 rfl) ?_
    refine o_val (v := .bool (decide (((j : Int) : Int) < ((ks.length : Nat) : Int)))) (x_lss rfl rfl) ?_
    refine o_nil ?_
    refine e_seq ?_
    refine c_splitd (d := 14) (p := ((j : Int) : Int) < ((ks.length : Nat) : Int)) rfl (fun hc1 => ?_) (fun hc1 => ?_)
    ·
      refine c_ift rfl ?_
      refine c_skip ?_
      refine e_seq ?_
      refine c_seq ?_
      refine c_block ?_
      refine c_seq ?_
      refine c_region ?_
      refine o_val (v := .pointer (some ⟨b1, 2, none⟩)) (x_fieldAddrO fa_32_2 rfl) ?_
      refine o_val (v := .slice (A) (ks.length) (c)) (x_load Tryz.isAgg22 rfl (hF.cell 0 rfl rfl)) ?_
      refine o_val (x_move rfl) ?_
      obtain ⟨ad0, hA0, hk0, hx0⟩ := hK.str_elem (i := j) (by omega)
      refine o_val (v := .pointer (some (ad0.add (j * 1)))) (x_indexAddrA (i := (j : Int)) sl_22 rfl hA0 rfl (by omega) (by omega)) ?_
      refine o_val (v := .string (bs (ks[j]))) (x_load Tryz.isAgg9 rfl (hF.cell0 hk0)) ?_
      refine o_val (v := .int .i64 ((((ks[j]) : Str).length : Int))) (x_len_string Tryz.underlying9 rfl) ?_
      refine o_val (v := .bool (decide ((1024 : Int) < ((((ks[j]) : Str).length : Int) : Int)))) (x_gtr rfl rfl) ?_
      refine o_nil ?_
      refine e_seq ?_
      refine c_splitd (d := 23) (p := (1024 : Int) < ((((ks[j]) : Str).length : Int) : Int)) rfl (fun hc2 => ?_) (fun hc2 => ?_)
      ·
        refine c_ift rfl ?_
        refine c_seq ?_
        refine c_region ?_
        refine o_val (x_assign rfl) ?_
        refine o_nil ?_
        refine e_seq ?_
        refine c_ret (e_ret (post_ret (res_1 (v := .bool false) rfl rfl) ?_))
        have hno : ks.all (fun k => decide (k.length ≤ 1024)) = false := by
          rw [Bool.eq_false_iff]; intro hall; have := List.all_eq_true.1 hall ks[j] (List.getElem_mem _); simp only [decide_eq_true_eq] at this; omega
        exact ⟨congrArg Value.bool (by rw [shortT, hno, Bool.and_false]; rfl), hF.same⟩
      ·
        refine c_iff rfl ?_
        refine c_skip ?_
        refine e_block ?_
        refine e_seq ?_
        refine c_region ?_
        refine o_val (x_move rfl) ?_
        refine o_val (v := .int .i64 (((j : Int) : Int) + 1)) (x_add rfl rfl (wrap_id (by omega) (by omega))) ?_
        refine o_val (x_assign rfl) ?_
        refine o_nil ?_
        refine e_inv ⟨_, ?_, j + 1, rfl, (by omega), (fun i hi hk => by rcases Nat.lt_or_ge i j with h | h; exact ha i h hk; obtain rfl : i = j := (by omega); omega), ⟨rfl, rfl, trivial⟩, hF⟩
        omega
    ·
      refine c_iff rfl ?_
      refine c_exit (e_exit rfl ?_)
      refine e_seq ?_
      refine c_seq ?_
      refine c_seq ?_
      refine c_region ?_
      refine o_val (x_assign rfl) ?_
      refine o_nil ?_
      refine e_seq ?_
      refine c_block ?_
      refine c_loop (fun μ σ w => ∃ (i : Nat), μ = xs.length - i ∧ (i ≤ xs.length) ∧ (∀ m (hm : m < i) (hk : m < xs.length), shortT xs[m] = true) ∧ AllEq σ [(1, .pointer (some ⟨b1, 0, none⟩)), (4, .int .i64 ((i : Int)))] ∧ FR w0 [] [(b1, .cells #[.int .i64 (k), .string (bs (t)), .slice (A) (ks.length) (c), .slice (B) (xs.length) (e)] 32)] w) _ ⟨0, rfl, (Nat.zero_le _), (fun i hi => absurd hi (by omega)), ⟨rfl, rfl, trivial⟩, hF⟩ ?_
      clear hF; rintro μ σ w ⟨i, rfl, hi, hb, hs, hF⟩
      refine Cg.slots hs ?_
      clear hs; intro σ
      refine c_seq ?_
      refine c_seq ?_
      refine c_region ?_
      refine o_val (x_move rfl) ?_
      refine o_val (v := .pointer (some ⟨b1, 3, none⟩)) (x_fieldAddrO fa_32_3 rfl) ?_
      refine o_val (v := .slice (B) (xs.length) (e)) (x_load Tryz.isAgg30 rfl (hF.cell 0 rfl rfl)) ?_
      refine o_val (v := .int .i64 ((xs.length : Nat))) (x_len_slice Tryz.underlying30 rfl) ?_
      refine o_val (v := .bool (decide (((i : Int) : Int) < ((xs.length : Nat) : Int)))) (x_lss rfl rfl) ?_
      refine o_nil ?_
      refine e_seq ?_
      refine c_splitd (d := 28) (p := ((i : Int) : Int) < ((xs.length : Nat) : Int)) rfl (fun hc3 => ?_) (fun hc3 => ?_)
      ·
        refine c_ift rfl ?_
        refine c_skip ?_
        refine e_seq ?_
        refine c_seq ?_
        refine c_block ?_
        refine c_seq ?_
        refine c_region ?_
        refine o_val (v := .pointer (some ⟨b1, 3, none⟩)) (x_fieldAddrO fa_32_3 rfl) ?_
        refine o_val (v := .slice (B) (xs.length) (e)) (x_load Tryz.isAgg30 rfl (hF.cell 0 rfl rfl)) ?_
        refine o_val (x_move rfl) ?_
        obtain ⟨ad1, cs1, hA1, hl1, hk1, hx1⟩ := hX.tree_elem (i := i) (by omega)
        have ho1 := hx1.one_
        refine o_val (v := .pointer (some (ad1.add (i * 4)))) (x_indexAddrA (i := (i : Int)) sl_30 rfl hA1 rfl (by omega) (by omega)) ?_
        refine o_val (v := .agg (List.toArray cs1)) (x_loadS (l := cs1) Tryz.isAgg32 Tryz.sizeOf32 rfl hl1 (hF.cells0 hk1)) ?_
        refine o_call (ih _ (List.getElem_mem (l := xs) (n := i) (by omega)) _ _ _ (hF.rep hx1)) (x_call1 en_27 rfl rfl) ?_
        rintro _ w ⟨rfl, hE⟩
        replace hF := hF.ext hE
        clear hE
        refine o_val (x_assign rfl) ?_
        refine o_nil ?_
        refine e_seq ?_
        refine c_seq ?_
        refine c_region ?_
        refine o_val (x_move rfl) ?_
        refine o_val (v := .bool (!(shortT xs[i]))) (x_not rfl) ?_
        refine o_nil ?_
        refine e_seq ?_
        refine c_split (d := 38) (b := !(shortT xs[i])) rfl (fun hc4 => ?_) (fun hc4 => ?_)
        ·
          refine c_ift rfl ?_
          refine c_seq ?_
          refine c_region ?_
          refine o_val (x_assign rfl) ?_
          refine o_nil ?_
          refine e_seq ?_
          refine c_ret (e_ret (post_ret (res_1 (v := .bool false) rfl rfl) ?_))
          exact ⟨congrArg Value.bool (by rw [shortT, shortTs_mem (List.getElem_mem (l := xs) (n := i) (by omega)) (by simpa using hc4), Bool.and_false]), hF.same⟩
        ·
          refine c_iff rfl ?_
          refine c_skip ?_
          refine e_block ?_
          refine e_seq ?_
          refine c_region ?_
          refine o_val (x_move rfl) ?_
          refine o_val (v := .int .i64 (((i : Int) : Int) + 1)) (x_add rfl rfl (wrap_id (by omega) (by omega))) ?_
          refine o_val (x_assign rfl) ?_
          refine o_nil ?_
          refine e_inv ⟨_, ?_, i + 1, rfl, (by omega), (fun m hm hk => by rcases Nat.lt_or_ge m i with h | h; exact hb m h hk; obtain rfl : m = i := (by omega); simpa using hc4), ⟨rfl, rfl, trivial⟩, hF⟩
          omega
      ·
        refine c_iff rfl ?_
        refine c_exit (e_exit rfl ?_)
        refine e_seq ?_
        refine c_seq ?_
        refine c_region ?_
        refine o_val (x_assign rfl) ?_
        refine o_nil ?_
        refine e_seq ?_
        refine c_ret (e_ret (post_ret (res_1 (v := .bool true) rfl rfl) ?_))
        have h1 : ks.all (fun k => decide (k.length ≤ 1024)) = true := by
          rw [List.all_eq_true]; intro k hk; obtain ⟨q, hq, rfl⟩ := List.getElem_of_mem hk; simp only [decide_eq_true_eq]; exact ha q (by omega) hq
        exact ⟨congrArg Value.bool (by rw [shortT, h1, decide_eq_true (by omega), shortTs_all (fun m hm => hb m (by omega) hm)]; rfl), hF.same⟩
theorem short_c (x : Tree) : ShortC x := Tree.ind short_step x
set_option maxHeartbeats 1000000 in
set_option maxRecDepth 10000 in
theorem few_v (x : Tree) (most : Int) (h0 : 0 ≤ most) (h1 : most ≤ 1000000) (S : Nat → Prop) (w0 : World) (cs : List Value) (hR : Rep S w0 (treeD x) cs) : Calls Tryz.prog 11 #[.agg cs.toArray, .int .i64 most] w0 (Ret fun v w' => v = .bool (fewB x most) ∧ Same [] w0 w') := by
 have hl : cs.length = 4 := hR.length.trans (size_treeD x)
 have ho := hR.one_
 refine calls_start Tryz.func11 rfl Tryz.ntmps11 (Nat.le_of_ble_eq_true rfl) (args_2 _ _) ?_
 have hF := FR.start w0 []
 refine c_seq (c_region ?_)
 refine o_box (v := .agg (List.toArray cs)) (cs := (List.toArray cs)) hF rfl rfl ?_
 clear hF; rintro b1 w hb1 hF -
 refine o_val (x_assign rfl) (o_nil (e_seq (c_seq (c_region (o_val (v := .agg (List.toArray cs)) (x_loadS (l := cs) Tryz.isAgg32 Tryz.sizeOf32 rfl hl (hF.cellsAll 0 rfl)) (o_val (x_move rfl) ?_))))))
 refine o_call (few_c x most 0 S _ cs h0 h1 (by omega) (by omega) (hF.rep hR)) (x_call3 en_26 rfl rfl rfl rfl) ?_
 rintro _ w ⟨rfl, hE⟩
 replace hF := hF.ext hE
 clear hE
 refine o_val (x_assign rfl) (o_nil (e_seq (c_seq (c_region (o_val (x_move rfl) (o_val (v := .bool (decide ((0 : Int) ≤ (fewT most 0 x : Int)))) (x_geq rfl rfl) (o_val (x_move rfl) ?_)))))))
 refine o_splitd (d := 11) (p := (0 : Int) ≤ (fewT most 0 x : Int)) rfl (fun hg0 => ?_) (fun hg0 => ?_)
 refine o_val (v := .agg (List.toArray cs)) (x_loadS (l := cs) Tryz.isAgg32 Tryz.sizeOf32 rfl hl (hF.cellsAll 0 rfl)) ?_
 refine o_call (short_c x S _ cs (hF.rep hR)) (x_call1 en_27 rfl rfl) ?_
 rintro _ w ⟨rfl, hE⟩
 replace hF := hF.ext hE
 clear hE
 refine o_val (x_pickt rfl rfl) (o_val (x_assign rfl) (o_nil (e_seq ?_)))
 refine c_ret (e_ret (post_ret (res_1 (v := .bool (shortT x)) rfl rfl) ?_))
 refine ⟨congrArg Value.bool ?_, hF.same⟩
 unfold fewB
 first | (rw [decide_eq_true hg0]; rfl) | (rw [decide_eq_false hg0]; rfl)
 refine o_off (o_off (o_val (x_pickf rfl rfl) (o_val (x_assign rfl) (o_nil (e_seq ?_)))))
 refine c_ret (e_ret (post_ret (res_1 (v := .bool false) rfl rfl) ?_))
 refine ⟨congrArg Value.bool ?_, hF.same⟩
 unfold fewB
 first | (rw [decide_eq_true hg0]; rfl) | (rw [decide_eq_false hg0]; rfl)
set_option maxHeartbeats 1000000 in
set_option maxRecDepth 10000 in
theorem row_c (A : Option Addr) (n c : Nat) (w0 : World) : Calls Tryz.prog 23 #[.slice A n c] w0 (Ret fun v w' => v = .agg #[.int .i64 5, .string (bs []), .slice none 0 0, .slice A n c] ∧ Same [] w0 w') := by
 refine calls_start Tryz.func23 rfl Tryz.ntmps23 (Nat.le_of_ble_eq_true rfl) (args_1 _) ?_
 have hF := FR.start w0 []
 refine c_seq (c_region ?_)
 refine o_alloc (cs := #[.int .i64 (0), .string (bs ([])), .slice (none) (0) (0), .slice (none) (0) (0)]) hF Tryz.zeroValue32 rfl ?_
 clear hF; rintro b1 w hb1 hF -
 refine o_nil (e_seq (c_seq (c_region (o_val (x_move rfl) ?_))))
 refine o_val (w' := w) (v := .agg #[.int .i64 (5), .string (bs ([])), .slice (none) (0) (0), .slice (A) (n) (c)]) (by kernel_rfl) ?_
 refine o_store 0 (l := [.int .i64 (5), .string (bs ([])), .slice (none) (0) (0), .slice (A) (n) (c)]) (cs' := #[.int .i64 (5), .string (bs ([])), .slice (none) (0) (0), .slice (A) (n) (c)]) hF Tryz.sizeOf32 rfl (v := .agg #[.int .i64 (5), .string (bs ([])), .slice (none) (0) (0), .slice (A) (n) (c)]) rfl rfl (by simp [one]) rfl (Nat.le_of_ble_eq_true rfl) rfl ?_
 clear hF; rintro w hF -
 replace hF : FR w0 [] [(b1, .cells #[.int .i64 (5), .string (bs ([])), .slice (none) (0) (0), .slice (A) (n) (c)] 32)] w := hF
 refine o_nil (e_seq ?_)
 refine c_ret (e_ret (post_ret (res_c rfl (l := [.int .i64 (5), .string (bs ([])), .slice (none) (0) (0), .slice (A) (n) (c)]) rfl Tryz.isAgg32 Tryz.sizeOf32 rfl (hF.cellsAll 0 rfl)) ?_))
 exact ⟨rfl, hF.same⟩
set_option maxHeartbeats 1000000 in
set_option maxRecDepth 10000 in
theorem map_c (A : Option Addr) (n c : Nat) (B : Option Addr) (m d : Nat) (w0 : World) : Calls Tryz.prog 37 #[.slice A n c, .slice B m d] w0 (Ret fun v w' => v = .agg #[.int .i64 6, .string (bs []), .slice A n c, .slice B m d] ∧ Same [] w0 w') := by
 refine calls_start Tryz.func37 rfl Tryz.ntmps37 (Nat.le_of_ble_eq_true rfl) (args_2 _ _) ?_
 have hF := FR.start w0 []
 refine c_seq (c_region ?_)
 refine o_alloc (cs := #[.int .i64 (0), .string (bs ([])), .slice (none) (0) (0), .slice (none) (0) (0)]) hF Tryz.zeroValue32 rfl ?_
 clear hF; rintro b1 w hb1 hF -
 refine o_nil (e_seq (c_seq (c_region (o_val (x_move rfl) (o_val (x_move rfl) ?_)))))
 refine o_val (w' := w) (v := .agg #[.int .i64 (6), .string (bs ([])), .slice (A) (n) (c), .slice (B) (m) (d)]) (by kernel_rfl) ?_
 refine o_store 0 (l := [.int .i64 (6), .string (bs ([])), .slice (A) (n) (c), .slice (B) (m) (d)]) (cs' := #[.int .i64 (6), .string (bs ([])), .slice (A) (n) (c), .slice (B) (m) (d)]) hF Tryz.sizeOf32 rfl (v := .agg #[.int .i64 (6), .string (bs ([])), .slice (A) (n) (c), .slice (B) (m) (d)]) rfl rfl (by simp [one]) rfl (Nat.le_of_ble_eq_true rfl) rfl ?_
 clear hF; rintro w hF -
 replace hF : FR w0 [] [(b1, .cells #[.int .i64 (6), .string (bs ([])), .slice (A) (n) (c), .slice (B) (m) (d)] 32)] w := hF
 refine o_nil (e_seq ?_)
 refine c_ret (e_ret (post_ret (res_c rfl (l := [.int .i64 (6), .string (bs ([])), .slice (A) (n) (c), .slice (B) (m) (d)]) rfl Tryz.isAgg32 Tryz.sizeOf32 rfl (hF.cellsAll 0 rfl)) ?_))
 exact ⟨rfl, hF.same⟩
set_option maxHeartbeats 4000000 in
set_option maxRecDepth 10000 in
theorem cloneR_step (k : Int) (t : Str) (ks : List Str) (xs : List Tree) (ih : ∀ x, x ∈ xs → CloneRC x) : CloneRC (.node k t ks xs) := by
 intro S w0 cs hR hsz hky
 rw [sizeT] at hsz
 rw [keysT] at hky
 have hxn := sizeTs_len xs
 obtain ⟨A, c, B, e, rfl, hk, ht, hK, hX⟩ := hR.tree_inv
 have hXl := hX.slice_len
 obtain ⟨eK, hrK, hKl, hKc⟩ := hK.slice_open (size_strs ks)
 refine calls_start Tryz.func12 rfl Tryz.ntmps12 (Nat.le_of_ble_eq_true rfl) (args_1 _) ?_
 have hF := FR.start w0 []
 refine c_seq (c_region ?_)
 refine o_box (v := .agg #[.int .i64 (k), .string (bs (t)), .slice (A) (ks.length) (c), .slice (B) (xs.length) (e)]) (cs := #[.int .i64 (k), .string (bs (t)), .slice (A) (ks.length) (c), .slice (B) (xs.length) (e)]) hF rfl rfl ?_
 clear hF; rintro b1 w hb1 hF -
 refine o_alloc (cs := #[.int .i64 (0), .string (bs ([])), .slice (none) (0) (0), .slice (none) (0) (0)]) hF Tryz.zeroValue32 rfl ?_
 clear hF; rintro b2 w hb2 hF -
 refine o_nil (e_seq (c_seq ?_))
 refine c_join (fun σ w => ∃ (b4 : Nat), ∃ (A0 : Option Addr), ∃ (c0 : Nat), ∃ (sa : List (Nat × Obj)), (SlB 9 1 A0 ks.length c0 eK sa) ∧ AllEq σ [(1, .pointer (some ⟨b1, 0, none⟩)), (2, .pointer (some ⟨b2, 0, none⟩)), (3, .pointer (some ⟨b4, 0, none⟩))] ∧ FR w0 [] ([(b4, .cells #[.int .i64 (k), .string (bs (t)), .slice (A0) (ks.length) (c0), .slice (none) (0) (0)] 32), (b2, .cells #[.int .i64 (0), .string (bs ([])), .slice (none) (0) (0), .slice (none) (0) (0)] 32), (b1, .cells #[.int .i64 (k), .string (bs (t)), .slice (A) (ks.length) (c), .slice (B) (xs.length) (e)] 32)] ++ (sa ++ [])) w) ?_ ?_
 refine c_drawF [10] (.free 0 (.free 1 (.free 2 (.free 3 (.free 5 (.free 6 (.alt 4 (.alt 7 (.free 8 (.act 9 (.act 10 .nil))) (.act 9 (.act 7 (.free 8 (.act 10 .nil))))) (.act 9 (.act 4 (.act 7 (.free 8 (.act 10 .nil)))))))))))) (by kernel_rfl) hF (by kernel_rfl) (by kernel_rfl) ?_
 clear hF; rintro w hF -
 refine ⟨fun wq => FR w0 [] [(b2, .cells #[.int .i64 (0), .string (bs ([])), .slice (none) (0) (0), .slice (none) (0) (0)] 32), (b1, .cells #[.int .i64 (k), .string (bs (t)), .slice (A) (ks.length) (c), .slice (B) (xs.length) (e)] 32)] wq, hF, ?_⟩
 refine f_free rfl (v := .pointer (some ⟨b1, 0, none⟩)) (fun w hC => x_fieldAddrO fa_32_0 rfl) (f_free rfl (v := .int .i64 (k)) (fun w hC => x_load Tryz.isAgg3 rfl (hC.cell 1 rfl rfl)) (f_free rfl (v := .pointer (some ⟨b1, 1, none⟩)) (fun w hC => x_fieldAddrO fa_32_1 rfl) (f_free rfl (v := .string (bs (t))) (fun w hC => x_load Tryz.isAgg9 rfl (hC.cell 1 rfl rfl)) (f_free rfl (v := .pointer (some ⟨b1, 2, none⟩)) (fun w hC => x_fieldAddrO fa_32_2 rfl) (f_free rfl (v := .slice (A) (ks.length) (c)) (fun w hC => x_load Tryz.isAgg22 rfl (hC.cell 1 rfl rfl)) ?_)))))
 refine d_alt ?_ ?_
 refine f_new rfl (v := fun b => .slice (some ⟨b, 0, none⟩) 0 0) hF (x_buildSlice0 Tryz.underlying22 Tryz.sizeOf9) ?_
 clear hF; rintro b3 w hb3 hF -
 refine ⟨hF.sub (.cons _ (.cons_cons _ (.cons_cons _ .slnil))), ?_⟩
 refine d_alt ?_ ?_
 have hS0 : SlB 9 1 (some ⟨b3, 0, none⟩) 0 0 [] [(b3, .cells #[] 9)] := ⟨by simp, .inr ⟨b3, #[], rfl, rfl, Nat.le_refl _, Nat.zero_le _, by simp, by simp⟩⟩
 replace hF := hF.toseg 0 rfl
 refine f_append [(b2, .cells #[.int .i64 (0), .string (bs ([])), .slice (none) (0) (0), .slice (none) (0) (0)] 32), (b1, .cells #[.int .i64 (k), .string (bs (t)), .slice (A) (ks.length) (c), .slice (B) (xs.length) (e)] 32)] [] (news := eK) (len' := ks.length) (ys := eK) rfl el_22 hF hS0 rfl rfl (by rw [hKl]) (fun hk => by obtain ⟨ad, hA, hc⟩ := hKc hk; exact ⟨ad, hA, cells_opt (hF.cells0 hc)⟩) (ones_eq hrK.one_) (by simp only [maxLen]; omega) (Nat.zero_add _) (rfl) (by omega) ?_
 clear hF; intro A0 c0 a_0 w hS0_a hF hE hnew
 clear hE hnew
 refine ⟨hF.sub (.cons_cons _ (.cons_cons _ (List.nil_sublist _))), ?_⟩
 refine f_free rfl (v := .agg #[.int .i64 (k), .string (bs (t)), .slice (A0) (ks.length) (c0), .slice (none) (0) (0)]) (fun w hC => by kernel_rfl) ?_
 refine f_new rfl (v := fun b => .pointer (some ⟨b, 0, none⟩)) (o := .cells #[.int .i64 (0), .string (bs ([])), .slice (none) (0) (0), .slice (none) (0) (0)] 32) hF (x_alloc Tryz.zeroValue32) ?_
 clear hF; rintro b4 w hb4 hF -
 refine ⟨hF.sub (.cons _ (.cons_cons _ (.cons_cons _ (List.nil_sublist _)))), ?_⟩
 refine f_storez rfl 0 (l := [.int .i64 (k), .string (bs (t)), .slice (A0) (ks.length) (c0), .slice (none) (0) (0)]) (cs' := #[.int .i64 (k), .string (bs (t)), .slice (A0) (ks.length) (c0), .slice (none) (0) (0)]) hF Tryz.sizeOf32 rfl (v := .agg #[.int .i64 (k), .string (bs (t)), .slice (A0) (ks.length) (c0), .slice (none) (0) (0)]) rfl rfl (by simp [one]) rfl (Nat.le_of_ble_eq_true rfl) rfl ?_
 clear hF; rintro w hF -
 replace hF : FR w0 [] ([(b4, .cells #[.int .i64 (k), .string (bs (t)), .slice (A0) (ks.length) (c0), .slice (none) (0) (0)] 32), (b2, .cells #[.int .i64 (0), .string (bs ([])), .slice (none) (0) (0), .slice (none) (0) (0)] 32), (b1, .cells #[.int .i64 (k), .string (bs (t)), .slice (A) (ks.length) (c), .slice (B) (xs.length) (e)] 32)] ++ (a_0 ++ [])) w := hF
 refine d_nil ?_
 exact e_inv ⟨(b4), (A0), (c0), (a_0), (hS0_a), ⟨rfl, rfl, rfl, trivial⟩, (((hF.front 2 rfl).front 2 rfl).front 2 rfl)⟩
 refine f_new rfl (v := fun b => .pointer (some ⟨b, 0, none⟩)) (o := .cells #[.int .i64 (0), .string (bs ([])), .slice (none) (0) (0), .slice (none) (0) (0)] 32) hF (x_alloc Tryz.zeroValue32) ?_
 clear hF; rintro b5 w hb5 hF -
 refine ⟨hF.sub (.cons _ (.cons _ (.cons_cons _ (.cons_cons _ .slnil)))), ?_⟩
 have hS0 : SlB 9 1 (some ⟨b3, 0, none⟩) 0 0 [] [(b3, .cells #[] 9)] := ⟨by simp, .inr ⟨b3, #[], rfl, rfl, Nat.le_refl _, Nat.zero_le _, by simp, by simp⟩⟩
 replace hF := hF.toseg 1 rfl
 refine f_append [(b5, .cells #[.int .i64 (0), .string (bs ([])), .slice (none) (0) (0), .slice (none) (0) (0)] 32), (b2, .cells #[.int .i64 (0), .string (bs ([])), .slice (none) (0) (0), .slice (none) (0) (0)] 32), (b1, .cells #[.int .i64 (k), .string (bs (t)), .slice (A) (ks.length) (c), .slice (B) (xs.length) (e)] 32)] [] (news := eK) (len' := ks.length) (ys := eK) rfl el_22 hF hS0 rfl rfl (by rw [hKl]) (fun hk => by obtain ⟨ad, hA, hc⟩ := hKc hk; exact ⟨ad, hA, cells_opt (hF.cells0 hc)⟩) (ones_eq hrK.one_) (by simp only [maxLen]; omega) (Nat.zero_add _) (rfl) (by omega) ?_
 clear hF; intro A1 c1 a_1 w hS1_a hF hE hnew
 clear hE hnew
 refine ⟨hF.sub (.cons _ (.cons_cons _ (.cons_cons _ (List.nil_sublist _)))), ?_⟩
 refine f_free rfl (v := .agg #[.int .i64 (k), .string (bs (t)), .slice (A1) (ks.length) (c1), .slice (none) (0) (0)]) (fun w hC => by kernel_rfl) ?_
 refine f_storez rfl 0 (l := [.int .i64 (k), .string (bs (t)), .slice (A1) (ks.length) (c1), .slice (none) (0) (0)]) (cs' := #[.int .i64 (k), .string (bs (t)), .slice (A1) (ks.length) (c1), .slice (none) (0) (0)]) hF Tryz.sizeOf32 rfl (v := .agg #[.int .i64 (k), .string (bs (t)), .slice (A1) (ks.length) (c1), .slice (none) (0) (0)]) rfl rfl (by simp [one]) rfl (Nat.le_of_ble_eq_true rfl) rfl ?_
 clear hF; rintro w hF -
 replace hF : FR w0 [] ([(b5, .cells #[.int .i64 (k), .string (bs (t)), .slice (A1) (ks.length) (c1), .slice (none) (0) (0)] 32), (b2, .cells #[.int .i64 (0), .string (bs ([])), .slice (none) (0) (0), .slice (none) (0) (0)] 32), (b1, .cells #[.int .i64 (k), .string (bs (t)), .slice (A) (ks.length) (c), .slice (B) (xs.length) (e)] 32)] ++ (a_1 ++ [])) w := hF
 refine d_nil ?_
 exact e_inv ⟨(b5), (A1), (c1), (a_1), (hS1_a), ⟨rfl, rfl, rfl, trivial⟩, (((hF.front 2 rfl).front 2 rfl).front 2 rfl)⟩
 refine f_new rfl (v := fun b => .pointer (some ⟨b, 0, none⟩)) (o := .cells #[.int .i64 (0), .string (bs ([])), .slice (none) (0) (0), .slice (none) (0) (0)] 32) hF (x_alloc Tryz.zeroValue32) ?_
 clear hF; rintro b6 w hb6 hF -
 refine ⟨hF.sub (.cons _ (.cons_cons _ (.cons_cons _ .slnil))), ?_⟩
 refine f_new rfl (v := fun b => .slice (some ⟨b, 0, none⟩) 0 0) hF (x_buildSlice0 Tryz.underlying22 Tryz.sizeOf9) ?_
 clear hF; rintro b7 w hb7 hF -
 refine ⟨hF.sub (.cons _ (.cons _ (.cons_cons _ (.cons_cons _ .slnil)))), ?_⟩
 have hS0 : SlB 9 1 (some ⟨b7, 0, none⟩) 0 0 [] [(b7, .cells #[] 9)] := ⟨by simp, .inr ⟨b7, #[], rfl, rfl, Nat.le_refl _, Nat.zero_le _, by simp, by simp⟩⟩
 replace hF := hF.toseg 0 rfl
 refine f_append [(b6, .cells #[.int .i64 (0), .string (bs ([])), .slice (none) (0) (0), .slice (none) (0) (0)] 32), (b2, .cells #[.int .i64 (0), .string (bs ([])), .slice (none) (0) (0), .slice (none) (0) (0)] 32), (b1, .cells #[.int .i64 (k), .string (bs (t)), .slice (A) (ks.length) (c), .slice (B) (xs.length) (e)] 32)] [] (news := eK) (len' := ks.length) (ys := eK) rfl el_22 hF hS0 rfl rfl (by rw [hKl]) (fun hk => by obtain ⟨ad, hA, hc⟩ := hKc hk; exact ⟨ad, hA, cells_opt (hF.cells0 hc)⟩) (ones_eq hrK.one_) (by simp only [maxLen]; omega) (Nat.zero_add _) (rfl) (by omega) ?_
 clear hF; intro A2 c2 a_2 w hS2_a hF hE hnew
 clear hE hnew
 refine ⟨hF.sub (.cons _ (.cons_cons _ (.cons_cons _ (List.nil_sublist _)))), ?_⟩
 refine f_free rfl (v := .agg #[.int .i64 (k), .string (bs (t)), .slice (A2) (ks.length) (c2), .slice (none) (0) (0)]) (fun w hC => by kernel_rfl) ?_
 refine f_storez rfl 0 (l := [.int .i64 (k), .string (bs (t)), .slice (A2) (ks.length) (c2), .slice (none) (0) (0)]) (cs' := #[.int .i64 (k), .string (bs (t)), .slice (A2) (ks.length) (c2), .slice (none) (0) (0)]) hF Tryz.sizeOf32 rfl (v := .agg #[.int .i64 (k), .string (bs (t)), .slice (A2) (ks.length) (c2), .slice (none) (0) (0)]) rfl rfl (by simp [one]) rfl (Nat.le_of_ble_eq_true rfl) rfl ?_
 clear hF; rintro w hF -
 replace hF : FR w0 [] ([(b6, .cells #[.int .i64 (k), .string (bs (t)), .slice (A2) (ks.length) (c2), .slice (none) (0) (0)] 32), (b2, .cells #[.int .i64 (0), .string (bs ([])), .slice (none) (0) (0), .slice (none) (0) (0)] 32), (b1, .cells #[.int .i64 (k), .string (bs (t)), .slice (A) (ks.length) (c), .slice (B) (xs.length) (e)] 32)] ++ (a_2 ++ [])) w := hF
 refine d_nil ?_
 exact e_inv ⟨(b6), (A2), (c2), (a_2), (hS2_a), ⟨rfl, rfl, rfl, trivial⟩, (((hF.front 2 rfl).front 2 rfl).front 2 rfl)⟩
 clear hF; rintro σ w ⟨b4, A0, c0, sa, hSa, hs, hF⟩
 refine Eg.slots hs ?_
 clear hs; intro σ
 refine e_seq (c_seq (c_seq (c_region (o_val (x_assign rfl) (o_nil (e_seq (c_block ?_)))))))
 refine c_loop (fun μ σ w => ∃ (j : Nat), ∃ (A1 : Option Addr), ∃ (c1 : Nat), ∃ (sb : List (Nat × Obj)), ∃ (cs1 : List Value), μ = xs.length - j ∧ (j ≤ xs.length) ∧ (SlB 32 4 A1 j c1 cs1 sb) ∧ (RX w0 ([b4, b2, b1] ++ (sa.map (·.1) ++ sb.map (·.1))) w (treesD (xs.take j)) cs1) ∧ AllEq σ [(1, .pointer (some ⟨b1, 0, none⟩)), (2, .pointer (some ⟨b2, 0, none⟩)), (3, .pointer (some ⟨b4, 0, none⟩)), (4, .int .i64 ((j : Int)))] ∧ FR w0 [] ([(b4, .cells #[.int .i64 (k), .string (bs (t)), .slice (A0) (ks.length) (c0), .slice (A1) (j) (c1)] 32), (b2, .cells #[.int .i64 (0), .string (bs ([])), .slice (none) (0) (0), .slice (none) (0) (0)] 32), (b1, .cells #[.int .i64 (k), .string (bs (t)), .slice (A) (ks.length) (c), .slice (B) (xs.length) (e)] 32)] ++ (sa ++ (sb ++ []))) w) _ ⟨0, none, 0, [], [], rfl, (Nat.zero_le _), (SlB.nil _ _), (RX.nil), ⟨rfl, rfl, rfl, rfl, trivial⟩, hF⟩ ?_
 clear hF; rintro μ σ w ⟨j, A1, c1, sb, cs1, rfl, hj, hS, hDX, hs, hF⟩
 refine Cg.slots hs ?_
 clear hs; intro σ
 refine c_seq (c_seq (c_region (o_val (x_move rfl) (o_val (v := .pointer (some ⟨b1, 3, none⟩)) (x_fieldAddrO fa_32_3 rfl) (o_val (v := .slice (B) (xs.length) (e)) (x_load Tryz.isAgg30 rfl (hF.cell 2 rfl rfl)) (o_val (v := .int .i64 ((xs.length : Nat))) (x_len_slice Tryz.underlying30 rfl) (o_val (v := .bool (decide (((j : Int) : Int) < ((xs.length : Nat) : Int)))) (x_lss rfl rfl) (o_nil (e_seq ?_)))))))))
 refine c_splitd (d := 18) (p := ((j : Int) : Int) < ((xs.length : Nat) : Int)) rfl (fun hc0 => ?_) (fun hc0 => ?_)
 refine c_ift rfl (c_skip (e_seq (c_seq (c_block ?_))))
 refine c_drawF [11] (.free 0 (.free 1 (.free 2 (.free 3 (.free 4 (.free 5 (.free 6 (.act 7 (.act 8 (.act 9 (.free 10 (.act 11 .nil)))))))))))) (by kernel_rfl) hF (by kernel_rfl) (by kernel_rfl) ?_
 clear hF; intro w hF hE
 replace hDX := hDX.ext hE
 clear hE
 refine ⟨fun wq => FR w0 [] [(b4, .cells #[.int .i64 (k), .string (bs (t)), .slice (A0) (ks.length) (c0), .slice (A1) (j) (c1)] 32), (b2, .cells #[.int .i64 (0), .string (bs ([])), .slice (none) (0) (0), .slice (none) (0) (0)] 32), (b1, .cells #[.int .i64 (k), .string (bs (t)), .slice (A) (ks.length) (c), .slice (B) (xs.length) (e)] 32)] wq, hF.sub (.cons_cons _ (.cons_cons _ (.cons_cons _ (List.nil_sublist _)))), ?_⟩
 refine f_free rfl (v := .pointer (some ⟨b4, 3, none⟩)) (fun w hC => x_fieldAddrO fa_32_3 rfl) (f_free rfl (v := .slice (A1) (j) (c1)) (fun w hC => x_load Tryz.isAgg30 rfl (hC.cell 0 rfl rfl)) (f_free rfl (v := .pointer (some ⟨b1, 3, none⟩)) (fun w hC => x_fieldAddrO fa_32_3 rfl) (f_free rfl (v := .slice (B) (xs.length) (e)) (fun w hC => x_load Tryz.isAgg30 rfl (hC.cell 2 rfl rfl)) (f_free rfl (v := .int .i64 ((j : Int))) (fun w hC => x_move rfl) ?_))))
 obtain ⟨ad3, cs3, hA3, hl3, hk3, hx3⟩ := hX.tree_elem (i := j) (by omega)
 have ho3 := hx3.one_
 refine f_free rfl (v := .pointer (some (ad3.add (j * 4)))) (fun w hC => x_indexAddrA (i := (j : Int)) sl_30 rfl hA3 rfl (by omega) (by omega)) (f_free rfl (v := .agg (List.toArray cs3)) (fun w hC => x_loadS (l := cs3) Tryz.isAgg32 Tryz.sizeOf32 rfl hl3 (hC.cells0 hk3)) ?_)
 refine f_call rfl (ih _ (List.getElem_mem (l := xs) (n := j) (by omega)) _ _ cs3 (hF.rep hx3) (by have := sizeTs_mem (List.getElem_mem (l := xs) (n := j) (by omega)); omega) (by have := keysTs_mem (List.getElem_mem (l := xs) (n := j) (by omega)); omega)) (x_call1 en_12 rfl rfl) ?_
 rintro _ w ⟨ct, rfl, hRt, hE⟩
 have hlt : ct.length = 4 := hRt.length.trans (size_treeD _)
 have hot := hRt.one_
 have hYX := RX.made (ids := [b4, b2, b1] ++ (sa.map (·.1) ++ sb.map (·.1))) hF.same.size (fun x hx => hF.lt_ids (by grind)) hRt
 replace hDX := (hDX.ext hE).append hYX
 replace hF := hF.ext hE
 clear hE hYX
 refine ⟨hF.sub (.cons_cons _ (.cons_cons _ (.cons_cons _ (List.nil_sublist _)))), ?_⟩
 refine f_new rfl (v := fun b => .slice (some ⟨b, 0, none⟩) 1 1) hF (x_buildSlice1 (l := ct) Tryz.underlying30 Tryz.sizeOf32 Tryz.zeroValue32 (by decide) (by decide) rfl hlt) ?_
 clear hF; intro b8 w hb8 hF hE
 replace hDX := hDX.alloc hE hb8
 clear hE
 refine ⟨hF.sub (.cons _ (.cons_cons _ (.cons_cons _ (.cons_cons _ (List.nil_sublist _))))), ?_⟩
 refine f_append ([(b8, .cells (List.toArray ct) 32), (b4, .cells #[.int .i64 (k), .string (bs (t)), .slice (A0) (ks.length) (c0), .slice (A1) (j) (c1)] 32), (b2, .cells #[.int .i64 (0), .string (bs ([])), .slice (none) (0) (0), .slice (none) (0) (0)] 32), (b1, .cells #[.int .i64 (k), .string (bs (t)), .slice (A) (ks.length) (c), .slice (B) (xs.length) (e)] 32)] ++ sa) [] (news := ct) (len' := j + 1) (ys := cs1 ++ ct) rfl el_30 hF hS rfl rfl (by rw [hlt]) (fun _ => ⟨_, rfl, cells_opt (hF.cellsAll 0 rfl)⟩) (ones_eq hot) (by simp only [maxLen]; omega) (rfl) (rfl) (by omega) ?_
 clear hF; intro A4 c4 i_4 w hS4_i hF hE hnew
 replace hDX := hDX.step (ids' := [b8, b4, b2, b1] ++ (sa.map (·.1) ++ i_4.map (·.1))) hE (by grind) (by grind)
 clear hE hnew
 refine ⟨hF.sub (.cons _ (.cons_cons _ (.cons_cons _ (.cons_cons _ (List.nil_sublist _))))), ?_⟩
 refine f_free rfl (v := .pointer (some ⟨b4, 3, none⟩)) (fun w hC => x_fieldAddrO fa_32_3 rfl) ?_
 refine f_storez rfl 1 (l := [.slice (A4) (j + 1) (c4)]) (cs' := #[.int .i64 (k), .string (bs (t)), .slice (A0) (ks.length) (c0), .slice (A4) (j + 1) (c4)]) hF Tryz.sizeOf30 rfl (v := .slice (A4) (j + 1) (c4)) rfl rfl (by simp [one]) rfl (Nat.le_of_ble_eq_true rfl) rfl ?_
 clear hF; intro w hF hE
 replace hDX := hDX.store hE (by grind)
 clear hE
 replace hF : FR w0 [] ([(b8, .cells (List.toArray ct) 32), (b4, .cells #[.int .i64 (k), .string (bs (t)), .slice (A0) (ks.length) (c0), .slice (A4) (j + 1) (c4)] 32), (b2, .cells #[.int .i64 (0), .string (bs ([])), .slice (none) (0) (0), .slice (none) (0) (0)] 32), (b1, .cells #[.int .i64 (k), .string (bs (t)), .slice (A) (ks.length) (c), .slice (B) (xs.length) (e)] 32)] ++ (sa ++ (i_4 ++ []))) w := hF
 refine d_nil (e_block (e_seq (c_region (o_val (x_move rfl) (o_val (v := .int .i64 (((j : Int) : Int) + 1)) (x_add rfl rfl (wrap_id (by omega) (by omega))) (o_val (x_assign rfl) (o_nil ?_)))))))
 refine e_inv ⟨_, ?_, j + 1, A4, c4, i_4, cs1 ++ ct, rfl, (by omega), (by assumption), (by rw [treesD_take (by omega)]; exact hDX.sub (by grind)), ⟨rfl, rfl, rfl, rfl, trivial⟩, hF.drop 1⟩
 omega
 refine c_iff rfl ?_
 refine c_exit (e_exit rfl ?_)
 refine e_seq (c_seq (c_region (o_val (v := .agg #[.int .i64 (k), .string (bs (t)), .slice (A0) (ks.length) (c0), .slice (A1) (j) (c1)]) (x_loadS (l := [.int .i64 (k), .string (bs (t)), .slice (A0) (ks.length) (c0), .slice (A1) (j) (c1)]) Tryz.isAgg32 Tryz.sizeOf32 rfl rfl (hF.cellsAll 0 rfl)) ?_)))
 refine o_store 1 (l := [.int .i64 (k), .string (bs (t)), .slice (A0) (ks.length) (c0), .slice (A1) (j) (c1)]) (cs' := #[.int .i64 (k), .string (bs (t)), .slice (A0) (ks.length) (c0), .slice (A1) (j) (c1)]) hF Tryz.sizeOf32 rfl (v := .agg #[.int .i64 (k), .string (bs (t)), .slice (A0) (ks.length) (c0), .slice (A1) (j) (c1)]) rfl rfl (by simp [one]) rfl (Nat.le_of_ble_eq_true rfl) rfl ?_
 clear hF; intro w hF hE
 replace hDX := hDX.store hE (by grind)
 clear hE
 replace hF : FR w0 [] ([(b4, .cells #[.int .i64 (k), .string (bs (t)), .slice (A0) (ks.length) (c0), .slice (A1) (j) (c1)] 32), (b2, .cells #[.int .i64 (k), .string (bs (t)), .slice (A0) (ks.length) (c0), .slice (A1) (j) (c1)] 32), (b1, .cells #[.int .i64 (k), .string (bs (t)), .slice (A) (ks.length) (c), .slice (B) (xs.length) (e)] 32)] ++ (sa ++ (sb ++ []))) w := hF
 refine o_nil (e_seq ?_)
 refine c_ret (e_ret (post_ret (res_c rfl (l := [.int .i64 (k), .string (bs (t)), .slice (A0) (ks.length) (c0), .slice (A1) (j) (c1)]) rfl Tryz.isAgg32 Tryz.sizeOf32 rfl (hF.cellsAll 1 rfl)) ?_))
 have ej : j = xs.length := by omega
 subst ej
 rw [List.take_length] at hDX
 refine ⟨_, rfl, ?_, hF.same⟩
 have hKX : RX w0 [] w (ks.map strD) eK := hrK.lits
 exact Rep.tree_mk hk ht (hSa.rep (pre := [_, _, _]) (post := sb ++ []) hF hKX (by simp)) (hS.rep (pre := [_, _, _] ++ sa) (post := []) (by simpa using hF) hDX (by simp))
theorem cloneR_c (x : Tree) : CloneRC x := Tree.ind cloneR_step x
end Go.Scarf
