/- A part of the proof. -/
import Derived.Test.YtehmojdjpmliaaaGreatDoorW11
set_option linter.all false
namespace Go.Scarf
open Go.RowKit Go.Proofs
mutual
def sameT : Tree → Tree → Bool
  | .node k t ks xs, .node k' t' ks' ys => decide (k = k') && decide (t = t') && decide (xs.length = ys.length) && (if k ≠ 6 then sameL xs ys else decide (ks.length = ks'.length) && sameM xs ks ks' ys)
def sameL : List Tree → List Tree → Bool
  | x :: xs, y :: ys => sameT x y && sameL xs ys
  | _, _ => true
def sameM : List Tree → List Str → List Str → List Tree → Bool
  | x :: xs, k :: ks, ks', ys => (match lookT ks' ys k with | some y => sameT x y | none => false) && sameM xs ks ks' ys
  | _, _, _, _ => true
end
def pairB (q : Tree → Tree → Bool) (xs ys : List Tree) : Bool := decide (xs.length = ys.length) && (xs.zip ys).all fun p => q p.1 p.2
theorem sameL_eq : ∀ xs ys : List Tree, ((xs.zip ys).all fun p => sameT p.1 p.2) = sameL xs ys
  | [], ys => by cases ys <;> simp [sameL]
  | x :: xs, [] => by simp [sameL]
  | x :: xs, y :: ys => by rw [List.zip_cons_cons, List.all_cons, sameL_eq xs ys, sameL]
theorem sameM_eq : ∀ (xs : List Tree) (ks ks' : List Str) (ys : List Tree), memB sameT ks xs ks' ys = sameM xs ks ks' ys
  | [], ks, ks', ys => by cases ks <;> simp [memB, sameM]
  | x :: xs, [], ks', ys => by simp [memB, sameM]
  | x :: xs, k :: ks, ks', ys => by
    have := sameM_eq xs ks ks' ys
    unfold memB at this ⊢
    rw [List.zip_cons_cons, List.all_cons, this, sameM]
    rfl
theorem all_pair_take {q : Tree → Tree → Bool} {xs ys : List Tree} {j : Nat} (h : j < xs.length) (h2 : j < ys.length) (ha : ((xs.take j).zip (ys.take j)).all (fun p => q p.1 p.2) = true) (hq : q xs[j] ys[j] = true) : ((xs.take (j + 1)).zip (ys.take (j + 1))).all (fun p => q p.1 p.2) = true := by
  rw [List.take_succ_eq_append_getElem h, List.take_succ_eq_append_getElem h2, List.zip_append (by rw [List.length_take, List.length_take]; omega), List.all_append, ha]
  simp [hq]
theorem pair_false {q : Tree → Tree → Bool} {xs ys : List Tree} {j : Nat} (h : j < xs.length) (h2 : j < ys.length) (hq : q xs[j] ys[j] = false) : ((xs.zip ys).all fun p => q p.1 p.2) = false := by
  rw [Bool.eq_false_iff]; intro ha
  have := List.all_eq_true.1 ha ((xs.zip ys)[j]'(by rw [List.length_zip]; omega)) (List.getElem_mem _)
  rw [List.getElem_zip] at this
  simp only [hq] at this; cases this
theorem MapRep.ext {S : Nat → Prop} {w w' : World} {xs : List Tree} {l : MapL} (h : MapRep S w xs l) (hs : Same [] w w') : MapRep S w' xs l := fun i hi => by
  obtain ⟨cs, h1, h2, h3⟩ := h i hi
  exact ⟨cs, h1, h2, h3.ext hs⟩
theorem Same.heap {w w' : World} {b : Nat} {o : Obj} (hs : Same [] w w') (h : w.heap[b]? = some o) : w'.heap[b]? = some o := (hs.block b (lt_of_some h) (by simp)).trans h
theorem allTs_mem {q : Tree → Bool} : ∀ {xs : List Tree}, allTs q xs = true → ∀ x ∈ xs, allT q x = true
  | [], _, _, h => absurd h (by simp)
  | y :: ys, h, x, hx => by
    rw [allTs, Bool.and_eq_true] at h
    rcases List.mem_cons.1 hx with rfl | hx
    · exact h.1
    · exact allTs_mem h.2 x hx
theorem allT_node {q : Tree → Bool} {k : Int} {t : Str} {ks : List Str} {xs : List Tree} (h : allT q (.node k t ks xs) = true) : q (.node k t ks xs) = true ∧ ∀ x ∈ xs, allT q x = true := by
  rw [allT, Bool.and_eq_true] at h
  exact ⟨h.1, allTs_mem h.2⟩
theorem node6 {t : Str} {ks : List Str} {xs : List Tree} (h : nodeB (.node 6 t ks xs) = true) : ks.Nodup ∧ ks.length = xs.length := by
  simp only [nodeB, keyedB] at h
  simp at h
  exact ⟨h.1.1.1, by omega⟩
def SameC (x : Tree) : Prop := ∀ y S S' w0 cs ct, Rep S w0 (treeD x) cs → Rep S' w0 (treeD y) ct → allT nodeB x = true → allT nodeB y = true → Calls Tryz.prog 69 #[.agg cs.toArray, .agg ct.toArray] w0 (Ret fun v w' => v = .bool (sameT x y) ∧ Same [] w0 w')
set_option maxHeartbeats 1000000 in
set_option maxRecDepth 10000 in
theorem equalFunc_c (q : Tree → Tree → Bool) (xs ys : List Tree) (B B' : Option Addr) (e e' : Nat) (S S' : Nat → Prop) (w0 : World) (hX : Rep S w0 (.slice (treesD xs)) [.slice B xs.length e]) (hY : Rep S' w0 (.slice (treesD ys)) [.slice B' ys.length e']) (hq : BothC w0 69 xs ys q) : Calls Tryz.prog 104 #[.slice B xs.length e, .slice B' ys.length e', .func (.func 69) #[] #[]] w0 (Ret fun v w' => v = .bool (pairB q xs ys) ∧ Same [] w0 w') := by
  have hXl := hX.slice_len
  have hYl := hY.slice_len
  refine calls_start Tryz.func104 rfl Tryz.ntmps104 (Nat.le_of_ble_eq_true rfl) (args_3 _ _ _) ?_
  have hF := FR.start w0 []
  refine c_seq ?_
  refine c_region ?_
  refine o_val (v := .bool false) (x_assign rfl) ?_
  refine o_nil ?_
  refine e_seq ?_
  refine c_seq ?_
  refine c_seq ?_
  refine c_region ?_
  refine o_val (v := .slice (B) (xs.length) (e)) (x_move rfl) ?_
  refine o_val (v := .int .i64 ((xs.length : Nat))) (x_len_slice Tryz.underlying23 rfl) ?_
  refine o_val (v := .slice (B') (ys.length) (e')) (x_move rfl) ?_
  refine o_val (v := .int .i64 ((ys.length : Nat))) (x_len_slice Tryz.underlying23 rfl) ?_
  refine o_val (v := .bool (decide (((xs.length : Nat) : Int) ≠ ((ys.length : Nat) : Int)))) (x_neq rfl rfl) ?_
  refine o_nil ?_
  refine e_seq ?_
  refine c_splitd (d := 14) (p := ((xs.length : Nat) : Int) ≠ ((ys.length : Nat) : Int)) rfl (fun hc0 => ?_) (fun hc0 => ?_)
  ·
    refine c_ift rfl ?_
    refine c_seq ?_
    refine c_region ?_
    refine o_val (v := .bool false) (x_assign rfl) ?_
    refine o_nil ?_
    refine e_seq ?_
    refine c_ret (e_ret (post_ret (res_1 (v := .bool false) rfl rfl) ?_))
    exact ⟨congrArg Value.bool (by unfold pairB; rw [decide_eq_false (by omega)]; rfl), hF.same⟩
  ·
    refine c_iff rfl ?_
    refine c_skip ?_
    refine e_seq ?_
    refine c_seq ?_
    refine c_seq ?_
    refine c_region ?_
    refine o_val (v := .slice (B) (xs.length) (e)) (x_move rfl) ?_
    refine o_val (v := .int .i64 ((xs.length : Nat))) (x_len_slice Tryz.underlying23 rfl) ?_
    refine o_val (v := .int .i64 (0)) (x_move rfl) ?_
    refine o_nil ?_
    refine e_seq ?_
    refine c_block ?_
    refine c_loop (fun μ σ w => ∃ (j : Nat), μ = xs.length - j ∧ (j ≤ xs.length) ∧ (((xs.take j).zip (ys.take j)).all (fun p => q p.1 p.2) = true) ∧ AllEq σ [(1, .slice (B') (ys.length) (e')), (2, .func (.func 69) #[] #[]), (15, .slice (B) (xs.length) (e)), (16, .int .i64 ((xs.length : Nat))), (17, .int .i64 ((j : Int)))] ∧ FR w0 [] [] w) _ ⟨0, rfl, (Nat.zero_le _), (by simp), ⟨rfl, rfl, rfl, rfl, rfl, trivial⟩, hF⟩ ?_
    clear hF; rintro μ σ w ⟨j, rfl, hj, ha, hs, hF⟩
    refine Cg.slots hs ?_
    clear hs; intro σ
    refine c_seq ?_
    refine c_region ?_
    refine o_val (v := .bool (decide (((j : Int) : Int) < ((xs.length : Nat) : Int)))) (x_lss rfl rfl) ?_
    refine o_nil ?_
    refine e_seq ?_
    refine c_seq ?_
    refine c_splitd (d := 18) (p := ((j : Int) : Int) < ((xs.length : Nat) : Int)) rfl (fun hc1 => ?_) (fun hc1 => ?_)
    ·
      refine c_ift rfl ?_
      refine c_skip ?_
      refine e_seq ?_
      refine c_seq ?_
      refine c_block ?_
      refine c_seq ?_
      refine c_region ?_
      refine o_val (v := .int .i64 ((j : Int))) (x_move rfl) ?_
      obtain ⟨ad0, cs0, hA0, hl0, hk0, hx0⟩ := hX.tree_elem (i := j) (by omega)
      have ho0 := hx0.one_
      refine o_val (v := .pointer (some (ad0.add (j * 4)))) (x_indexAddrA (i := (j : Int)) sl_23 rfl hA0 rfl (by omega) (by omega)) ?_
      refine o_val (v := .agg (List.toArray cs0)) (x_loadS (l := cs0) Tryz.isAgg25 Tryz.sizeOf25 rfl hl0 (hF.cells0 hk0)) ?_
      refine o_alloc (cs := #[.int .i64 (0), .string (bs ([])), .slice (none) (0) (0), .slice (none) (0) (0)]) hF Tryz.zeroValue25 rfl ?_
      clear hF; intro b1 w hb1 hF hE
      clear hE
      refine o_val (v := .int .i64 ((j : Int))) (x_assign rfl) ?_
      refine o_store 0 (l := cs0) (cs' := (List.toArray cs0)) hF (by rw [hl0]; exact Tryz.sizeOf25) rfl (v := .agg (List.toArray cs0)) rfl rfl (ho0) rfl (by rw [hl0]; exact Nat.le_of_ble_eq_true rfl) (putA_all (by rw [hl0]; rfl)) ?_
      clear hF; intro w hF hE
      clear hE
      replace hF : FR w0 [] [(b1, .cells (List.toArray cs0) 25)] w := hF
      refine o_nil ?_
      refine e_seq ?_
      refine c_seq ?_
      refine c_region ?_
      refine o_val (v := .slice (B') (ys.length) (e')) (x_move rfl) ?_
      refine o_val (v := .int .i64 ((j : Int))) (x_move rfl) ?_
      obtain ⟨ad1, cs1, hA1, hl1, hk1, hx1⟩ := hY.tree_elem (i := j) (by omega)
      have ho1 := hx1.one_
      refine o_val (v := .pointer (some (ad1.add (j * 4)))) (x_indexAddrA (i := (j : Int)) sl_23 rfl hA1 rfl (by omega) (by omega)) ?_
      refine o_val (v := .agg (List.toArray cs1)) (x_loadS (l := cs1) Tryz.isAgg25 Tryz.sizeOf25 rfl hl1 (hF.cells0 hk1)) ?_
      refine o_lay (l := cs1) hF Tryz.zeroValue25 (by rw [hl1]; exact Tryz.sizeOf25) (by rw [hl1]; rfl) (v := .agg (List.toArray cs1)) rfl rfl (ho1) rfl ?_
      clear hF; intro b2 w hb2 hF hE
      clear hE
      refine o_nil ?_
      refine e_seq ?_
      refine c_seq ?_
      refine c_region ?_
      refine o_val (v := .func (.func 69) #[] #[]) (x_move rfl) ?_
      refine o_val (v := .agg (List.toArray cs0)) (x_loadS (l := cs0) Tryz.isAgg25 Tryz.sizeOf25 rfl hl0 (hF.cellsAll 1 rfl)) ?_
      refine o_val (v := .agg (List.toArray cs1)) (x_loadS (l := cs1) Tryz.isAgg25 Tryz.sizeOf25 rfl hl1 (hF.cellsAll 0 rfl)) ?_
      refine o_call (hq _ (List.getElem_mem (l := xs) (n := j) (by omega)) _ (List.getElem_mem (l := ys) (n := j) (by omega)) _ _ _ _ _ hF.same (hF.rep hx0) (hF.rep hx1)) (x_callv2 rfl en_69 rfl rfl rfl) ?_
      rintro _ w ⟨rfl, hE⟩
      replace hF := hF.ext hE
      clear hE
      refine o_val (v := .bool (!(q xs[j] ys[j]))) (x_not rfl) ?_
      refine o_nil ?_
      refine e_seq ?_
      refine c_split (d := 30) (b := !(q xs[j] ys[j])) rfl (fun hc2 => ?_) (fun hc2 => ?_)
      ·
        refine c_ift rfl ?_
        refine c_seq ?_
        refine c_region ?_
        refine o_val (v := .bool false) (x_assign rfl) ?_
        refine o_nil ?_
        refine e_seq ?_
        refine c_ret (e_ret (post_ret (res_1 (v := .bool false) rfl rfl) ?_))
        exact ⟨congrArg Value.bool (by unfold pairB; rw [pair_false (j := j) (by omega) (by omega) (by simpa using hc2), Bool.and_false]), hF.same⟩
      ·
        refine c_iff rfl ?_
        refine c_skip ?_
        refine e_block ?_
        refine e_seq ?_
        refine c_region ?_
        refine o_val (v := .int .i64 (((j : Int) : Int) + 1)) (x_add rfl rfl (wrap_id (by omega) (by omega))) ?_
        refine o_val (v := .int .i64 (((j : Int) : Int) + 1)) (x_move rfl) ?_
        refine o_nil ?_
        refine e_inv ⟨_, ?_, j + 1, rfl, (by omega), (all_pair_take (by omega) (by omega) ha (by simpa using hc2)), ⟨rfl, rfl, rfl, rfl, rfl, trivial⟩, hF.drop 2⟩
        omega
    ·
      refine c_iff rfl ?_
      refine c_exit (e_exit rfl ?_)
      refine e_seq ?_
      refine c_seq ?_
      refine c_region ?_
      refine o_val (v := .bool true) (x_assign rfl) ?_
      refine o_nil ?_
      refine e_seq ?_
      refine c_ret (e_ret (post_ret (res_1 (v := .bool true) rfl rfl) ?_))
      have eX : xs.take j = xs := List.take_of_length_le (by omega)
      have eY : ys.take j = ys := List.take_of_length_le (by omega)
      rw [eX, eY] at ha
      exact ⟨congrArg Value.bool (by unfold pairB; rw [ha, decide_eq_true (by omega)]; rfl), hF.same⟩
set_option maxHeartbeats 4000000 in
set_option maxRecDepth 10000 in
theorem same_step (k : Int) (t : Str) (ks : List Str) (xs : List Tree) (ih : ∀ x, x ∈ xs → SameC x) : SameC (.node k t ks xs) := by
  rintro ⟨k', t', ks', ys⟩ S S' w0 cs ct hR hR' hnx hny
  replace hnx := allT_node hnx
  replace hny := allT_node hny
  obtain ⟨A, c, B, e, rfl, -, -, hK, hX⟩ := hR.tree_inv
  obtain ⟨A', c', B', e', rfl, -, -, hK', hY⟩ := hR'.tree_inv
  have hXl := hX.slice_len
  have hYl := hY.slice_len
  refine calls_start Tryz.func69 rfl Tryz.ntmps69 (Nat.le_of_ble_eq_true rfl) (args_2 _ _) ?_
  have hF := FR.start w0 []
  refine c_seq ?_
  refine c_region ?_
  refine o_box (v := .agg #[.int .i64 (k), .string (bs (t)), .slice (A) (ks.length) (c), .slice (B) (xs.length) (e)]) (cs := #[.int .i64 (k), .string (bs (t)), .slice (A) (ks.length) (c), .slice (B) (xs.length) (e)]) hF rfl rfl ?_
  clear hF; intro b1 w hb1 hF hE
  clear hE
  refine o_box (v := .agg #[.int .i64 (k'), .string (bs (t')), .slice (A') (ks'.length) (c'), .slice (B') (ys.length) (e')]) (cs := #[.int .i64 (k'), .string (bs (t')), .slice (A') (ks'.length) (c'), .slice (B') (ys.length) (e')]) hF rfl rfl ?_
  clear hF; intro b2 w hb2 hF hE
  clear hE
  refine o_val (v := .bool false) (x_assign rfl) ?_
  refine o_nil ?_
  refine e_seq ?_
  refine c_seq ?_
  refine c_block ?_
  refine c_seq ?_
  refine c_seq ?_
  refine c_region ?_
  refine o_val (v := .pointer (some ⟨b1, 0, none⟩)) (x_fieldAddrO fa_25_0 rfl) ?_
  refine o_val (v := .int .i64 (k)) (x_load Tryz.isAgg3 rfl (hF.cell 1 rfl rfl)) ?_
  refine o_val (v := .pointer (some ⟨b2, 0, none⟩)) (x_fieldAddrO fa_25_0 rfl) ?_
  refine o_val (v := .int .i64 (k')) (x_load Tryz.isAgg3 rfl (hF.cell 0 rfl rfl)) ?_
  refine o_val (v := .bool (decide ((k : Int) ≠ (k' : Int)))) (x_neq rfl rfl) ?_
  refine o_val (v := .bool (decide ((k : Int) ≠ (k' : Int)))) (x_assign rfl) ?_
  refine o_nil ?_
  refine e_seq ?_
  refine c_splitd (d := 5) (p := (k : Int) ≠ (k' : Int)) rfl (fun hc0 => ?_) (fun hc0 => ?_)
  ·
    refine c_ift rfl ?_
    refine c_skip ?_
    refine e_seq ?_
    refine c_ift rfl ?_
    refine c_seq ?_
    refine c_region ?_
    refine o_val (v := .bool false) (x_assign rfl) ?_
    refine o_nil ?_
    refine e_seq ?_
    refine c_ret (e_ret (post_ret (res_1 (v := .bool false) rfl rfl) ?_))
    refine ⟨congrArg Value.bool ?_, hF.same⟩
    rw [sameT]
    clear hF hXl hYl hR hR' hX hY hK hK' ih hnx hny
    first | (simp_all [pairB, sameL_eq, sameM_eq]; done) | (simp_all [pairB, sameL_eq, sameM_eq]; omega)
  ·
    refine c_iff rfl ?_
    refine c_seq ?_
    refine c_region ?_
    refine o_val (v := .pointer (some ⟨b1, 1, none⟩)) (x_fieldAddrO fa_25_1 rfl) ?_
    refine o_val (v := .string (bs (t))) (x_load Tryz.isAgg9 rfl (hF.cell 1 rfl rfl)) ?_
    refine o_val (v := .pointer (some ⟨b2, 1, none⟩)) (x_fieldAddrO fa_25_1 rfl) ?_
    refine o_val (v := .string (bs (t'))) (x_load Tryz.isAgg9 rfl (hF.cell 0 rfl rfl)) ?_
    refine o_val (v := .bool (decide ((t : Str) ≠ t'))) (x_neqs rfl rfl) ?_
    refine o_val (v := .bool (decide ((t : Str) ≠ t'))) (x_assign rfl) ?_
    refine o_nil ?_
    refine e_seq ?_
    refine c_splitd (d := 5) (p := (t : Str) ≠ t') rfl (fun hc1 => ?_) (fun hc1 => ?_)
    ·
      refine c_ift rfl ?_
      refine c_skip ?_
      refine e_seq ?_
      refine c_ift rfl ?_
      refine c_seq ?_
      refine c_region ?_
      refine o_val (v := .bool false) (x_assign rfl) ?_
      refine o_nil ?_
      refine e_seq ?_
      refine c_ret (e_ret (post_ret (res_1 (v := .bool false) rfl rfl) ?_))
      refine ⟨congrArg Value.bool ?_, hF.same⟩
      rw [sameT]
      clear hF hXl hYl hR hR' hX hY hK hK' ih hnx hny
      first | (simp_all [pairB, sameL_eq, sameM_eq]; done) | (simp_all [pairB, sameL_eq, sameM_eq]; omega)
    ·
      refine c_iff rfl ?_
      refine c_region ?_
      refine o_val (v := .pointer (some ⟨b1, 3, none⟩)) (x_fieldAddrO fa_25_3 rfl) ?_
      refine o_val (v := .slice (B) (xs.length) (e)) (x_load Tryz.isAgg23 rfl (hF.cell 1 rfl rfl)) ?_
      refine o_val (v := .int .i64 ((xs.length : Nat))) (x_len_slice Tryz.underlying23 rfl) ?_
      refine o_val (v := .pointer (some ⟨b2, 3, none⟩)) (x_fieldAddrO fa_25_3 rfl) ?_
      refine o_val (v := .slice (B') (ys.length) (e')) (x_load Tryz.isAgg23 rfl (hF.cell 0 rfl rfl)) ?_
      refine o_val (v := .int .i64 ((ys.length : Nat))) (x_len_slice Tryz.underlying23 rfl) ?_
      refine o_val (v := .bool (decide (((xs.length : Nat) : Int) ≠ ((ys.length : Nat) : Int)))) (x_neq rfl rfl) ?_
      refine o_val (v := .bool (decide (((xs.length : Nat) : Int) ≠ ((ys.length : Nat) : Int)))) (x_assign rfl) ?_
      refine o_nil ?_
      refine e_seq ?_
      refine c_splitd (d := 5) (p := ((xs.length : Nat) : Int) ≠ ((ys.length : Nat) : Int)) rfl (fun hc2 => ?_) (fun hc2 => ?_)
      ·
        refine c_ift rfl ?_
        refine c_seq ?_
        refine c_region ?_
        refine o_val (v := .bool false) (x_assign rfl) ?_
        refine o_nil ?_
        refine e_seq ?_
        refine c_ret (e_ret (post_ret (res_1 (v := .bool false) rfl rfl) ?_))
        refine ⟨congrArg Value.bool ?_, hF.same⟩
        rw [sameT]
        clear hF hXl hYl hR hR' hX hY hK hK' ih hnx hny
        first | (simp_all [pairB, sameL_eq, sameM_eq]; done) | (simp_all [pairB, sameL_eq, sameM_eq]; omega)
      ·
        refine c_iff rfl ?_
        refine c_seq ?_
        refine c_region ?_
        refine o_val (v := .pointer (some ⟨b1, 0, none⟩)) (x_fieldAddrO fa_25_0 rfl) ?_
        refine o_val (v := .int .i64 (k)) (x_load Tryz.isAgg3 rfl (hF.cell 1 rfl rfl)) ?_
        refine o_val (v := .bool (decide ((k : Int) ≠ (6 : Int)))) (x_neq rfl rfl) ?_
        refine o_val (v := .bool (decide ((k : Int) ≠ (6 : Int)))) (x_assign rfl) ?_
        refine o_nil ?_
        refine e_seq ?_
        refine c_splitd (d := 23) (p := (k : Int) ≠ (6 : Int)) rfl (fun hc3 => ?_) (fun hc3 => ?_)
        ·
          refine c_ift rfl ?_
          refine c_seq ?_
          refine c_region ?_
          refine o_val (v := .pointer (some ⟨b1, 3, none⟩)) (x_fieldAddrO fa_25_3 rfl) ?_
          refine o_val (v := .slice (B) (xs.length) (e)) (x_load Tryz.isAgg23 rfl (hF.cell 1 rfl rfl)) ?_
          refine o_val (v := .pointer (some ⟨b2, 3, none⟩)) (x_fieldAddrO fa_25_3 rfl) ?_
          refine o_val (v := .slice (B') (ys.length) (e')) (x_load Tryz.isAgg23 rfl (hF.cell 0 rfl rfl)) ?_
          refine o_call (equalFunc_c sameT xs ys B B' e e' S S' _ (hF.rep hX) (hF.rep hY) (fun x hx y hy S1 S2 w1 cs1 ct1 _ h1 h2 => ih x hx y S1 S2 w1 cs1 ct1 h1 h2 (hnx.2 x hx) (hny.2 y hy))) (x_call3 en_104 rfl rfl rfl rfl) ?_
          rintro _ w ⟨rfl, hE⟩
          replace hF := hF.ext hE
          clear hE
          refine o_val (v := .bool (pairB sameT xs ys)) (x_assign rfl) ?_
          refine o_nil ?_
          refine e_seq ?_
          refine c_ret (e_ret (post_ret (res_1 (v := .bool (pairB sameT xs ys)) rfl rfl) ?_))
          refine ⟨congrArg Value.bool ?_, hF.same⟩
          rw [sameT]
          clear hF hXl hYl hR hR' hX hY hK hK' ih hnx hny
          first | (simp_all [pairB, sameL_eq, sameM_eq]; done) | (simp_all [pairB, sameL_eq, sameM_eq]; omega)
        ·
          refine c_iff rfl ?_
          refine c_skip ?_
          refine e_block ?_
          refine e_seq ?_
          refine c_seq ?_
          refine c_drawF [] (.free 0 (.free 2 (.act 1 (.act 3 (.act 4 (.free 5 .nil)))))) (by kernel_rfl) hF (by kernel_rfl) (by kernel_rfl) ?_
          clear hF; intro w hF hE
          clear hE
          refine ⟨fun wq => FR w0 [] [(b2, .cells #[.int .i64 (k'), .string (bs (t')), .slice (A') (ks'.length) (c'), .slice (B') (ys.length) (e')] 25), (b1, .cells #[.int .i64 (k), .string (bs (t)), .slice (A) (ks.length) (c), .slice (B) (xs.length) (e)] 25)] wq, hF, ?_⟩
          refine f_free rfl (v := .agg #[.int .i64 (k), .string (bs (t)), .slice (A) (ks.length) (c), .slice (B) (xs.length) (e)]) (fun w hC => x_loadS (l := [.int .i64 (k), .string (bs (t)), .slice (A) (ks.length) (c), .slice (B) (xs.length) (e)]) Tryz.isAgg25 Tryz.sizeOf25 rfl rfl (hC.cellsAll 1 rfl)) ?_
          refine f_free rfl (v := .agg #[.int .i64 (k'), .string (bs (t')), .slice (A') (ks'.length) (c'), .slice (B') (ys.length) (e')]) (fun w hC => x_loadS (l := [.int .i64 (k'), .string (bs (t')), .slice (A') (ks'.length) (c'), .slice (B') (ys.length) (e')]) Tryz.isAgg25 Tryz.sizeOf25 rfl rfl (hC.cellsAll 0 rfl)) ?_
          have k6 : k = 6 := by simpa using hc3
          refine f_call rfl (members_c k t ks xs (node6 (k6 ▸ hnx.1)).1 (node6 (k6 ▸ hnx.1)).2 S _ _ (hF.rep hR)) (x_call1 en_56 rfl rfl) ?_
          rintro _ w ⟨m1, l1, rfl, -, hm1, hk1, hr1, hE⟩
          replace hF := hF.ext hE
          clear hE
          refine ⟨hF, ?_⟩
          have k6' : k' = 6 := by omega
          refine f_call rfl (members_c k' t' ks' ys (node6 (k6' ▸ hny.1)).1 (node6 (k6' ▸ hny.1)).2 S' _ _ (hF.rep hR')) (x_call1 en_56 rfl rfl) ?_
          rintro _ w ⟨m2, l2, rfl, -, hm2, hk2, hr2, hE⟩
          replace hF := hF.ext hE
          replace hm1 := hE.heap hm1
          replace hr1 := hr1.ext hE
          clear hE
          refine ⟨hF, ?_⟩
          refine f_call rfl (mapsEqual_c sameT ks ks' xs ys m1 m2 l1 l2 S S' _ hm1 hm2 hk1 hk2 hr1 hr2 (fun x hx y hy S1 S2 w1 cs1 ct1 _ h1 h2 => ih x hx y S1 S2 w1 cs1 ct1 h1 h2 (hnx.2 x hx) (hny.2 y hy))) (x_call3 en_105 rfl rfl rfl rfl) ?_
          rintro _ w ⟨rfl, hE⟩
          replace hF := hF.ext hE
          clear hE
          refine ⟨hF, ?_⟩
          refine f_free rfl (v := .bool ((decide (ks.length = ks'.length) && memB sameT ks xs ks' ys))) (fun w hC => x_assign rfl) ?_
          refine d_nil ?_
          refine e_seq ?_
          refine c_ret (e_ret (post_ret (res_1 (v := .bool ((decide (ks.length = ks'.length) && memB sameT ks xs ks' ys))) rfl rfl) ?_))
          refine ⟨congrArg Value.bool ?_, hF.same⟩
          rw [sameT]
          clear hF hXl hYl hR hR' hX hY hK hK' ih hnx hny
          first | (simp_all [pairB, sameL_eq, sameM_eq]; done) | (simp_all [pairB, sameL_eq, sameM_eq]; omega)
theorem same_c (x : Tree) : SameC x := Tree.ind same_step x
end Go.Scarf
