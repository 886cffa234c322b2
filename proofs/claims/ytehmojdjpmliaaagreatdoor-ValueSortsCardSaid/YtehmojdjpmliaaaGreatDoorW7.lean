/- A part of the proof. -/
import Derived.Test.YtehmojdjpmliaaaGreatDoorW6
set_option linter.all false
namespace Go.Scarf
open Go.RowKit Go.Proofs
theorem Tree.ind {Q : Tree → Prop} (h : ∀ k t ks xs, (∀ x, x ∈ xs → Q x) → Q (.node k t ks xs)) (x : Tree) : Q x :=
  Tree.rec (motive_1 := Q) (motive_2 := fun xs => ∀ x, x ∈ xs → Q x) (fun k t ks xs ih => h k t ks xs ih) (by simp)
    (fun y ys h1 h2 => by
      intro z hz
      rcases List.mem_cons.1 hz with rfl | hz
      · exact h1
      · exact h2 z hz) x
mutual
def sizeT : Tree → Nat | .node _ _ _ xs => 1 + sizeTs xs
def sizeTs : List Tree → Nat | [] => 0 | x :: xs => sizeT x + sizeTs xs
end
mutual
def depthT : Tree → Nat | .node _ _ _ xs => depthTs xs + 1
def depthTs : List Tree → Nat | [] => 0 | x :: xs => max (depthT x) (depthTs xs)
end
theorem sizeTs_append : ∀ (xs ys : List Tree), sizeTs (xs ++ ys) = sizeTs xs + sizeTs ys
  | [], ys => by simp [sizeTs]
  | x :: xs, ys => by simp [sizeTs, sizeTs_append xs ys, Nat.add_assoc]
theorem depthTs_append : ∀ (xs ys : List Tree), depthTs (xs ++ ys) = max (depthTs xs) (depthTs ys)
  | [], ys => by simp [depthTs]
  | x :: xs, ys => by simp only [List.cons_append, depthTs, depthTs_append xs ys]; omega
theorem sizeTs_take (xs : List Tree) (j : Nat) (hj : j < xs.length) : sizeTs (xs.take (j+1)) = sizeTs (xs.take j) + sizeT xs[j] := by
  rw [List.take_succ_eq_append_getElem hj, sizeTs_append]; simp [sizeTs]
theorem depthTs_take (xs : List Tree) (j : Nat) (hj : j < xs.length) : depthTs (xs.take (j+1)) = max (depthTs (xs.take j)) (depthT xs[j]) := by
  rw [List.take_succ_eq_append_getElem hj, depthTs_append]; simp [depthTs]
theorem sizeTs_mem : ∀ {xs : List Tree} {x : Tree}, x ∈ xs → sizeT x ≤ sizeTs xs
  | [], _, h => absurd h (by simp)
  | y :: ys, x, h => by
    rw [sizeTs]
    rcases List.mem_cons.1 h with rfl | h
    · omega
    · have := sizeTs_mem h; omega
theorem sizeT_pos (x : Tree) : 1 ≤ sizeT x := by cases x; rw [sizeT]; omega
theorem sizeTs_len : ∀ (xs : List Tree), xs.length ≤ sizeTs xs
  | [] => by simp [sizeTs]
  | x :: xs => by have := sizeTs_len xs; have := sizeT_pos x; simp only [sizeTs, List.length_cons]; omega
theorem depth_le (x : Tree) : depthT x ≤ sizeT x := by
  refine Tree.ind (Q := fun x => depthT x ≤ sizeT x) (fun k t ks xs ih => ?_) x
  have : depthTs xs ≤ sizeTs xs := by
    induction xs with
    | nil => simp [depthTs, sizeTs]
    | cons y ys ihy =>
      have h1 := ih y (by simp)
      have h2 := ihy (fun z hz => ih z (by simp [hz]))
      simp only [depthTs, sizeTs]; omega
  simp only [depthT, sizeT]; omega
theorem depthTs_le (xs : List Tree) : depthTs xs ≤ sizeTs xs := by
  have := depth_le (.node 0 [] [] xs)
  simp only [depthT, sizeT] at this; omega
def SizeC (x : Tree) : Prop := ∀ S w0 cs, Rep S w0 (treeD x) cs → Calls Tryz.prog 24 #[.agg cs.toArray] w0 (Ret fun v w' => v = .int .i64 (wr (sizeT x)) ∧ Same [] w0 w')
set_option maxHeartbeats 1000000 in
set_option maxRecDepth 10000 in
theorem size_step (k : Int) (t : Str) (ks : List Str) (xs : List Tree) (ih : ∀ x, x ∈ xs → SizeC x) : SizeC (.node k t ks xs) := by
  intro S w0 cs hR
  obtain ⟨A, c, B, e, rfl, -, -, -, hX⟩ := hR.tree_inv
  have hXl := hX.slice_len
  refine calls_start Tryz.func24 rfl Tryz.ntmps24 (Nat.le_of_ble_eq_true rfl) (args_1 _) ?_
  have hF := FR.start w0 []
  refine c_seq ?_
  refine c_region ?_
  refine o_box (v := .agg #[.int .i64 (k), .string (bs (t)), .slice (A) (ks.length) (c), .slice (B) (xs.length) (e)]) (cs := #[.int .i64 (k), .string (bs (t)), .slice (A) (ks.length) (c), .slice (B) (xs.length) (e)]) hF rfl rfl ?_
  clear hF; intro b1 w hb1 hF hE
  clear hE
  refine o_val (v := .int .i64 (0)) (x_assign rfl) ?_
  refine o_nil ?_
  refine e_seq ?_
  refine c_seq ?_
  refine c_region ?_
  refine o_val (v := .int .i64 (1)) (x_assign rfl) ?_
  refine o_nil ?_
  refine e_seq ?_
  refine c_seq ?_
  refine c_seq ?_
  refine c_region ?_
  refine o_val (v := .pointer (some ⟨b1, 3, none⟩)) (x_fieldAddrO fa_25_3 rfl) ?_
  refine o_val (v := .slice (B) (xs.length) (e)) (x_load Tryz.isAgg23 rfl (hF.cell 0 rfl rfl)) ?_
  refine o_val (v := .int .i64 ((xs.length : Nat))) (x_len_slice Tryz.underlying23 rfl) ?_
  refine o_val (v := .int .i64 (0)) (x_move rfl) ?_
  refine o_nil ?_
  refine e_seq ?_
  refine c_block ?_
  refine c_loop (fun μ σ w => ∃ (j : Nat), μ = xs.length - j ∧ (j ≤ xs.length) ∧ AllEq σ [(3, .int .i64 (wr (1 + sizeTs (xs.take j)))), (7, .slice (B) (xs.length) (e)), (8, .int .i64 ((xs.length : Nat))), (9, .int .i64 ((j : Int)))] ∧ FR w0 [] [(b1, .cells #[.int .i64 (k), .string (bs (t)), .slice (A) (ks.length) (c), .slice (B) (xs.length) (e)] 25)] w) _ ⟨0, rfl, (Nat.zero_le _), ⟨rfl, rfl, rfl, rfl, trivial⟩, hF⟩ ?_
  clear hF; rintro μ σ w ⟨j, rfl, hj, hs, hF⟩
  refine Cg.slots hs ?_
  clear hs; intro σ
  refine c_seq ?_
  refine c_region ?_
  refine o_val (v := .bool (decide (((j : Int) : Int) < ((xs.length : Nat) : Int)))) (x_lss rfl rfl) ?_
  refine o_nil ?_
  refine e_seq ?_
  refine c_seq ?_
  refine c_splitd (d := 10) (p := ((j : Int) : Int) < ((xs.length : Nat) : Int)) rfl (fun hc0 => ?_) (fun hc0 => ?_)
  ·
    refine c_ift rfl ?_
    refine c_skip ?_
    refine e_seq ?_
    refine c_seq ?_
    refine c_block ?_
    refine c_seq ?_
    refine c_region ?_
    obtain ⟨ad0, cs0, hA0, hl0, hk0, hx0⟩ := hX.tree_elem (i := j) (by omega)
    have ho0 := hx0.one_
    refine o_val (v := .pointer (some (ad0.add (j * 4)))) (x_indexAddrA (i := (j : Int)) sl_23 rfl hA0 rfl (by omega) (by omega)) ?_
    refine o_val (v := .agg (List.toArray cs0)) (x_loadS (l := cs0) Tryz.isAgg25 Tryz.sizeOf25 rfl hl0 (hF.cells0 hk0)) ?_
    refine o_lay (l := cs0) hF Tryz.zeroValue25 (by rw [hl0]; exact Tryz.sizeOf25) (by rw [hl0]; rfl) (v := .agg (List.toArray cs0)) rfl rfl (ho0) rfl ?_
    clear hF; intro b2 w hb2 hF hE
    clear hE
    refine o_nil ?_
    refine e_seq ?_
    refine c_region ?_
    refine o_val (v := .int .i64 (wr (1 + sizeTs (xs.take j)))) (x_move rfl) ?_
    refine o_val (v := .agg (List.toArray cs0)) (x_loadS (l := cs0) Tryz.isAgg25 Tryz.sizeOf25 rfl hl0 (hF.cellsAll 0 rfl)) ?_
    refine o_call (ih _ (List.getElem_mem _) _ _ _ (hF.rep hx0)) (x_call1 en_24 rfl rfl) ?_
    rintro _ w ⟨rfl, hE⟩
    replace hF := hF.ext hE
    clear hE
    refine o_val (v := .int .i64 (wr (1 + sizeTs (xs.take (j + 1))))) (x_add rfl rfl (by rw [wr_wr_add, sizeTs_take xs j (by omega), Int.natCast_add, Int.add_assoc])) ?_
    refine o_val (v := .int .i64 (wr (1 + sizeTs (xs.take (j + 1))))) (x_assign rfl) ?_
    refine o_nil ?_
    refine e_block ?_
    refine e_seq ?_
    refine c_region ?_
    refine o_val (v := .int .i64 (((j : Int) : Int) + 1)) (x_add rfl rfl (wrap_id (by omega) (by omega))) ?_
    refine o_val (v := .int .i64 (((j : Int) : Int) + 1)) (x_move rfl) ?_
    refine o_nil ?_
    refine e_inv ⟨_, ?_, j + 1, rfl, (by omega), ⟨rfl, rfl, rfl, rfl, trivial⟩, hF.drop 1⟩
    omega
  ·
    refine c_iff rfl ?_
    refine c_exit (e_exit rfl ?_)
    refine e_seq ?_
    refine c_seq ?_
    refine c_region ?_
    refine o_val (v := .int .i64 (wr (1 + sizeTs (xs.take j)))) (x_move rfl) ?_
    refine o_val (v := .int .i64 (wr (1 + sizeTs (xs.take j)))) (x_assign rfl) ?_
    refine o_nil ?_
    refine e_seq ?_
    refine c_ret (e_ret (post_ret (res_1 (v := .int .i64 (wr (1 + sizeTs (xs.take j)))) rfl rfl) ?_))
    obtain rfl : j = xs.length := by omega
    exact ⟨by simp [sizeT], hF.same⟩
theorem size_c (x : Tree) : SizeC x := Tree.ind size_step x
def DepthC (x : Tree) : Prop := sizeT x ≤ 1000000000 → ∀ S w0 cs, Rep S w0 (treeD x) cs → Calls Tryz.prog 36 #[.agg cs.toArray] w0 (Ret fun v w' => v = .int .i64 (depthT x : Nat) ∧ Same [] w0 w')
set_option maxHeartbeats 1000000 in
set_option maxRecDepth 10000 in
theorem depth_step (k : Int) (t : Str) (ks : List Str) (xs : List Tree) (ih : ∀ x, x ∈ xs → DepthC x) : DepthC (.node k t ks xs) := by
  intro hsz S w0 cs hR
  obtain ⟨A, c, B, e, rfl, -, -, -, hX⟩ := hR.tree_inv
  have hXl := hX.slice_len
  have hdl := depthTs_le xs
  rw [sizeT] at hsz
  refine calls_start Tryz.func36 rfl Tryz.ntmps36 (Nat.le_of_ble_eq_true rfl) (args_1 _) ?_
  have hF := FR.start w0 []
  refine c_seq ?_
  refine c_region ?_
  refine o_box (v := .agg #[.int .i64 (k), .string (bs (t)), .slice (A) (ks.length) (c), .slice (B) (xs.length) (e)]) (cs := #[.int .i64 (k), .string (bs (t)), .slice (A) (ks.length) (c), .slice (B) (xs.length) (e)]) hF rfl rfl ?_
  clear hF; intro b1 w hb1 hF hE
  clear hE
  refine o_val (v := .int .i64 (0)) (x_assign rfl) ?_
  refine o_nil ?_
  refine e_seq ?_
  refine c_seq ?_
  refine c_region ?_
  refine o_val (v := .int .i64 (0)) (x_assign rfl) ?_
  refine o_nil ?_
  refine e_seq ?_
  refine c_seq ?_
  refine c_seq ?_
  refine c_region ?_
  refine o_val (v := .pointer (some ⟨b1, 3, none⟩)) (x_fieldAddrO fa_25_3 rfl) ?_
  refine o_val (v := .slice (B) (xs.length) (e)) (x_load Tryz.isAgg23 rfl (hF.cell 0 rfl rfl)) ?_
  refine o_val (v := .int .i64 ((xs.length : Nat))) (x_len_slice Tryz.underlying23 rfl) ?_
  refine o_val (v := .int .i64 (0)) (x_move rfl) ?_
  refine o_nil ?_
  refine e_seq ?_
  refine c_block ?_
  refine c_loop (fun μ σ w => ∃ (j : Nat), μ = xs.length - j ∧ (j ≤ xs.length) ∧ AllEq σ [(3, .int .i64 ((depthTs (xs.take j) : Nat))), (7, .slice (B) (xs.length) (e)), (8, .int .i64 ((xs.length : Nat))), (9, .int .i64 ((j : Int)))] ∧ FR w0 [] [(b1, .cells #[.int .i64 (k), .string (bs (t)), .slice (A) (ks.length) (c), .slice (B) (xs.length) (e)] 25)] w) _ ⟨0, rfl, (Nat.zero_le _), ⟨rfl, rfl, rfl, rfl, trivial⟩, hF⟩ ?_
  clear hF; rintro μ σ w ⟨j, rfl, hj, hs, hF⟩
  refine Cg.slots hs ?_
  clear hs; intro σ
  refine c_seq ?_
  refine c_region ?_
  refine o_val (v := .bool (decide (((j : Int) : Int) < ((xs.length : Nat) : Int)))) (x_lss rfl rfl) ?_
  refine o_nil ?_
  refine e_seq ?_
  refine c_seq ?_
  refine c_splitd (d := 10) (p := ((j : Int) : Int) < ((xs.length : Nat) : Int)) rfl (fun hc0 => ?_) (fun hc0 => ?_)
  ·
    refine c_ift rfl ?_
    refine c_skip ?_
    refine e_seq ?_
    refine c_seq ?_
    refine c_block ?_
    refine c_seq ?_
    refine c_region ?_
    obtain ⟨ad0, cs0, hA0, hl0, hk0, hx0⟩ := hX.tree_elem (i := j) (by omega)
    have ho0 := hx0.one_
    refine o_val (v := .pointer (some (ad0.add (j * 4)))) (x_indexAddrA (i := (j : Int)) sl_23 rfl hA0 rfl (by omega) (by omega)) ?_
    refine o_val (v := .agg (List.toArray cs0)) (x_loadS (l := cs0) Tryz.isAgg25 Tryz.sizeOf25 rfl hl0 (hF.cells0 hk0)) ?_
    refine o_lay (l := cs0) hF Tryz.zeroValue25 (by rw [hl0]; exact Tryz.sizeOf25) (by rw [hl0]; rfl) (v := .agg (List.toArray cs0)) rfl rfl (ho0) rfl ?_
    clear hF; intro b2 w hb2 hF hE
    clear hE
    refine o_nil ?_
    refine e_seq ?_
    refine c_region ?_
    refine o_val (v := .int .i64 ((depthTs (xs.take j) : Nat))) (x_move rfl) ?_
    refine o_val (v := .agg (List.toArray cs0)) (x_loadS (l := cs0) Tryz.isAgg25 Tryz.sizeOf25 rfl hl0 (hF.cellsAll 0 rfl)) ?_
    refine o_call (ih _ (List.getElem_mem _) (by have := sizeTs_mem (List.getElem_mem (l := xs) (n := j) (by omega)); omega) _ _ _ (hF.rep hx0)) (x_call1 en_36 rfl rfl) ?_
    rintro _ w ⟨rfl, hE⟩
    replace hF := hF.ext hE
    clear hE
    refine o_val (v := .int .i64 ((depthTs (xs.take (j + 1)) : Nat))) (by rw [← show max ((depthTs (xs.take j) : Nat) : Int) ((depthT xs[j] : Nat) : Int) = ((depthTs (xs.take (j + 1)) : Nat) : Int) from by rw [depthTs_take xs j (by omega)]; omega]; exact x_max rfl rfl) ?_
    refine o_val (v := .int .i64 ((depthTs (xs.take (j + 1)) : Nat))) (x_assign rfl) ?_
    refine o_nil ?_
    refine e_block ?_
    refine e_seq ?_
    refine c_region ?_
    refine o_val (v := .int .i64 (((j : Int) : Int) + 1)) (x_add rfl rfl (wrap_id (by omega) (by omega))) ?_
    refine o_val (v := .int .i64 (((j : Int) : Int) + 1)) (x_move rfl) ?_
    refine o_nil ?_
    refine e_inv ⟨_, ?_, j + 1, rfl, (by omega), ⟨rfl, rfl, rfl, rfl, trivial⟩, hF.drop 1⟩
    omega
  ·
    refine c_iff rfl ?_
    refine c_exit (e_exit rfl ?_)
    refine e_seq ?_
    refine c_seq ?_
    refine c_region ?_
    refine o_val (v := .int .i64 ((depthTs (xs.take j) : Nat))) (x_move rfl) ?_
    have eT : xs.take j = xs := List.take_of_length_le (by omega)
    refine o_val (v := .int .i64 ((depthT (.node k t ks xs) : Nat))) (x_add rfl rfl (by rw [eT, depthT]; exact wrap_to (by omega) (by omega) (by omega))) ?_
    refine o_val (v := .int .i64 ((depthT (.node k t ks xs) : Nat))) (x_assign rfl) ?_
    refine o_nil ?_
    refine e_seq ?_
    refine c_ret (e_ret (post_ret (res_1 (v := .int .i64 ((depthT (.node k t ks xs) : Nat))) rfl rfl) ?_))
    exact ⟨rfl, hF.same⟩
theorem depth_c (x : Tree) : DepthC x := Tree.ind depth_step x
end Go.Scarf
