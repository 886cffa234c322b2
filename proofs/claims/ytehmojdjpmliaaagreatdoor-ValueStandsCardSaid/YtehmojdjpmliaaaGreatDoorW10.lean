/- A part of the proof. -/
import Derived.Test.YtehmojdjpmliaaaGreatDoorW4
set_option linter.all false
namespace Go.Scarf
open Go.RowKit Go.Proofs
def MapRep (S : Nat → Prop) (w : World) (xs : List Tree) (l : MapL) : Prop := ∀ i (h : i < l.length), ∃ cs : List Value, l[i].2 = .agg cs.toArray ∧ ∃ h2 : i < xs.length, Rep S w (treeD xs[i]) cs
theorem MapRep.nil (S : Nat → Prop) (w : World) (xs : List Tree) : MapRep S w xs [] := fun i h => absurd h (by simp)
theorem MapRep.snoc {S : Nat → Prop} {w : World} {xs : List Tree} {l : MapL} {k : Str} {cs : List Value} (h : MapRep S w xs l) (hl : l.length < xs.length) (hr : Rep S w (treeD xs[l.length]) cs) : MapRep S w xs (l ++ [(k, .agg cs.toArray)]) := by
  intro i hi
  rw [List.length_append, List.length_singleton] at hi
  by_cases he : i < l.length
  · obtain ⟨c, h1, h2, h3⟩ := h i he
    exact ⟨c, by rw [List.getElem_append_left he]; exact h1, h2, h3⟩
  · obtain rfl : i = l.length := by omega
    exact ⟨cs, by simp, hl, hr⟩
theorem lookM_none {l : MapL} {ks : List Str} {j : Nat} (h : j < ks.length) (hl : l.map (·.1) = ks.take j) (hn : ks.Nodup) : lookM l ks[j] = none := by
  have hnot : ¬ ks[j] ∈ ks.take j := fun hm => not_nodup_of h hm hn
  rw [← hl] at hnot
  unfold lookM
  rw [Option.map_eq_none_iff, List.find?_eq_none]
  intro x hx he
  exact hnot (List.mem_map.2 ⟨x, hx, by simpa using he⟩)
theorem keys_snoc {l : MapL} {ks : List Str} {j : Nat} {v : Value} (h : j < ks.length) (hl : l.map (·.1) = ks.take j) : (l ++ [(ks[j], v)]).map (·.1) = ks.take (j + 1) := by
  rw [List.map_append, hl, List.take_succ_eq_append_getElem h]; rfl
theorem keys_len {l : MapL} {ks : List Str} {j : Nat} (h : j ≤ ks.length) (hl : l.map (·.1) = ks.take j) : l.length = j := by
  have := congrArg List.length hl
  rw [List.length_map, List.length_take] at this; omega
set_option maxHeartbeats 1000000 in
set_option maxRecDepth 10000 in
theorem members_c (k : Int) (t : Str) (ks : List Str) (xs : List Tree) (hn : ks.Nodup) (hlen : ks.length = xs.length) (S : Nat → Prop) (w0 : World) (cs : List Value) (hR : Rep S w0 (treeD (.node k t ks xs)) cs) : Calls Tryz.prog 56 #[.agg cs.toArray] w0 (Ret fun v w' => ∃ (b : Nat) (l : MapL), v = .map (some b) ∧ w0.heap.size ≤ b ∧ w'.heap[b]? = some (mapO l) ∧ l.map (·.1) = ks ∧ MapRep S w' xs l ∧ Same [] w0 w') := by
 obtain ⟨A, c, B, e, rfl, -, -, hK, hX⟩ := hR.tree_inv
 have hXl := hX.slice_len
 have hKl := hK.slice_len
 refine calls_start Tryz.func56 rfl Tryz.ntmps56 (Nat.le_of_ble_eq_true rfl) (args_1 _) ?_
 have hF := FR.start w0 []
 refine c_seq (c_region ?_)
 refine o_box (v := .agg #[.int .i64 (k), .string (bs (t)), .slice (A) (ks.length) (c), .slice (B) (xs.length) (e)]) (cs := #[.int .i64 (k), .string (bs (t)), .slice (A) (ks.length) (c), .slice (B) (xs.length) (e)]) hF rfl rfl ?_
 clear hF; rintro b1 w hb1 hF -
 refine o_val (v := .map none) (x_assign rfl) (o_nil (e_seq (c_seq (c_region (o_val (v := .pointer (some ⟨b1, 2, none⟩)) (x_fieldAddrO fa_25_2 rfl) (o_val (v := .slice (A) (ks.length) (c)) (x_load Tryz.isAgg22 rfl (hF.cell 0 rfl rfl)) (o_val (v := .int .i64 ((ks.length : Nat))) (x_len_slice Tryz.underlying22 rfl) ?_)))))))
 refine o_new (v := fun b => .map (some b)) hF (x_makeMap Tryz.underlying58 rfl) ?_
 clear hF; rintro b2 w hb2 hF -
 refine o_val (v := .map (some b2)) (x_assign rfl) (o_nil (e_seq (c_seq (c_seq (c_region (o_val (v := .pointer (some ⟨b1, 2, none⟩)) (x_fieldAddrO fa_25_2 rfl) (o_val (v := .slice (A) (ks.length) (c)) (x_load Tryz.isAgg22 rfl (hF.cell 1 rfl rfl)) (o_val (v := .int .i64 ((ks.length : Nat))) (x_len_slice Tryz.underlying22 rfl) (o_val (v := .int .i64 (0)) (x_move rfl) (o_nil (e_seq (c_block ?_))))))))))))
 refine c_loop (fun μ σ w => ∃ (j : Nat), ∃ (l : MapL), μ = ks.length - j ∧ (j ≤ ks.length) ∧ (l.map (·.1) = ks.take j) ∧ (MapRep S w0 xs l) ∧ AllEq σ [(1, .pointer (some ⟨b1, 0, none⟩)), (3, .map (some b2)), (11, .slice (A) (ks.length) (c)), (12, .int .i64 ((ks.length : Nat))), (13, .int .i64 ((j : Int)))] ∧ FR w0 [] [(b2, mapO (l)), (b1, .cells #[.int .i64 (k), .string (bs (t)), .slice (A) (ks.length) (c), .slice (B) (xs.length) (e)] 25)] w) _ ⟨0, [], rfl, (Nat.zero_le _), (by simp), (MapRep.nil _ _ _), ⟨rfl, rfl, rfl, rfl, rfl, trivial⟩, hF⟩ ?_
 clear hF; rintro μ σ w ⟨j, l, rfl, hj, hl, hr, hs, hF⟩
 refine Cg.slots hs ?_
 clear hs; intro σ
 have hll := keys_len hj hl
 refine c_seq (c_region (o_val (v := .bool (decide (((j : Int) : Int) < ((ks.length : Nat) : Int)))) (x_lss rfl rfl) (o_nil (e_seq (c_seq ?_)))))
 refine c_splitd (d := 14) (p := ((j : Int) : Int) < ((ks.length : Nat) : Int)) rfl (fun hc0 => ?_) (fun hc0 => ?_)
 refine c_ift rfl (c_skip (e_seq (c_seq (c_block (c_seq (c_region (o_val (v := .int .i64 ((j : Int))) (x_move rfl) ?_)))))))
 obtain ⟨ad0, hA0, hk0, hx0⟩ := hK.str_elem (i := j) (by omega)
 refine o_val (v := .pointer (some (ad0.add (j * 1)))) (x_indexAddrA (i := (j : Int)) sl_22 rfl hA0 rfl (by omega) (by omega)) (o_val (v := .string (bs (ks[j]))) (x_load Tryz.isAgg9 rfl (hF.cell0 hk0)) (o_val (v := .int .i64 ((j : Int))) (x_assign rfl) (o_val (v := .string (bs (ks[j]))) (x_assign rfl) (o_nil (e_seq (c_region (o_val (v := .map (some b2)) (x_move rfl) (o_val (v := .string (bs (ks[j]))) (x_move rfl) (o_val (v := .pointer (some ⟨b1, 3, none⟩)) (x_fieldAddrO fa_25_3 rfl) (o_val (v := .slice (B) (xs.length) (e)) (x_load Tryz.isAgg23 rfl (hF.cell 1 rfl rfl)) (o_val (v := .int .i64 ((j : Int))) (x_move rfl) ?_)))))))))))
 obtain ⟨ad1, cs1, hA1, hl1, hk1, hx1⟩ := hX.tree_elem (i := j) (by omega)
 have ho1 := hx1.one_
 refine o_val (v := .pointer (some (ad1.add (j * 4)))) (x_indexAddrA (i := (j : Int)) sl_23 rfl hA1 rfl (by omega) (by omega)) (o_val (v := .agg (List.toArray cs1)) (x_loadS (l := cs1) Tryz.isAgg25 Tryz.sizeOf25 rfl hl1 (hF.cells0 hk1)) ?_)
 refine o_mapUpdate 0 (v := .agg (List.toArray cs1)) hF Tryz.underlying58 Tryz.underlying9 rfl rfl rfl rfl (lookM_none (by omega) hl hn) ?_
 clear hF; rintro w hF -
 replace hF : FR w0 [] [(b2, mapO (l ++ [(ks[j], .agg (List.toArray cs1))])), (b1, .cells #[.int .i64 (k), .string (bs (t)), .slice (A) (ks.length) (c), .slice (B) (xs.length) (e)] 25)] w := hF
 refine o_nil (e_block (e_seq (c_region (o_val (v := .int .i64 (((j : Int) : Int) + 1)) (x_add rfl rfl (wrap_id (by omega) (by omega))) (o_val (v := .int .i64 (((j : Int) : Int) + 1)) (x_move rfl) (o_nil ?_))))))
 refine e_inv ⟨_, ?_, j + 1, l ++ [(ks[j], .agg (List.toArray cs1))], rfl, (by omega), (keys_snoc (by omega) hl), (hr.snoc (by omega) (by simpa only [hll] using hx1)), ⟨rfl, rfl, rfl, rfl, rfl, trivial⟩, hF⟩
 omega
 refine c_iff rfl ?_
 refine c_exit (e_exit rfl ?_)
 refine e_seq (c_seq (c_region (o_val (v := .map (some b2)) (x_move rfl) (o_val (v := .map (some b2)) (x_assign rfl) (o_nil (e_seq ?_))))))
 refine c_ret (e_ret (post_ret (res_1 (v := .map (some b2)) rfl rfl) ?_))
 refine ⟨b2, l, rfl, by have := hF.ge (i := 0) rfl; exact this, hF.heap (i := 0) rfl, ?_, ?_, hF.same⟩
 rw [hl]; exact List.take_of_length_le (by omega)
 intro i hi; obtain ⟨cs, h1, h2, h3⟩ := hr i hi; exact ⟨cs, h1, h2, hF.rep h3⟩
end Go.Scarf
namespace Go.Scarf
open Go.RowKit Go.Proofs
def lookT : List Str → List Tree → Str → Option Tree
  | k :: ks, x :: xs, key => if k = key then some x else lookT ks xs key
  | _, _, _ => none
def memB (q : Tree → Tree → Bool) (ks : List Str) (xs : List Tree) (ks' : List Str) (ys : List Tree) : Bool :=
  (ks.zip xs).all fun p => match lookT ks' ys p.1 with | some y => q p.2 y | none => false
theorem MapRep.tail {S : Nat → Prop} {w : World} {x : Tree} {xs : List Tree} {p : Str × Value} {l : MapL} (h : MapRep S w (x :: xs) (p :: l)) : MapRep S w xs l := by
  intro i hi
  obtain ⟨cs, h1, h2, h3⟩ := h (i + 1) (by simpa using hi)
  exact ⟨cs, by simpa using h1, by simpa using h2, by simpa using h3⟩
theorem lookM_tree {S : Nat → Prop} {w : World} (key : Str) : ∀ {ks : List Str} {xs : List Tree} {l : MapL}, l.map (·.1) = ks → MapRep S w xs l →
    (lookM l key = none ∧ lookT ks xs key = none) ∨ ∃ (cs : List Value) (y : Tree), lookM l key = some (.agg cs.toArray) ∧ lookT ks xs key = some y ∧ y ∈ xs ∧ Rep S w (treeD y) cs
  | ks, xs, [], hk, _ => by
    left
    simp only [List.map_nil] at hk
    subst hk
    exact ⟨rfl, by cases xs <;> rfl⟩
  | ks, [], p :: l, hk, hm => by
    obtain ⟨cs, h1, h2, h3⟩ := hm 0 (by simp)
    simp at h2
  | ks, x :: xs, p :: l, hk, hm => by
    rw [List.map_cons] at hk
    subst hk
    by_cases h : p.1 = key
    · right
      obtain ⟨cs, h1, h2, h3⟩ := hm 0 (by simp)
      refine ⟨cs, x, ?_, by simp [lookT, h], by simp, h3⟩
      simp only [List.getElem_cons_zero] at h1
      simp [lookM, h, h1]
    · have e1 : lookM (p :: l) key = lookM l key := by simp [lookM, h]
      have e2 : lookT (p.1 :: l.map (·.1)) (x :: xs) key = lookT (l.map (·.1)) xs key := by simp [lookT, h]
      rw [e1, e2]
      rcases lookM_tree key rfl hm.tail with h | ⟨cs, y, h1, h2, h3, h4⟩
      · exact .inl h
      · exact .inr ⟨cs, y, h1, h2, by simp [h3], h4⟩
def BothC (w0 : World) (g : Nat) (xs ys : List Tree) (q : Tree → Tree → Bool) : Prop := ∀ x, x ∈ xs → ∀ y, y ∈ ys → ∀ S S' w cs ct, Same [] w0 w → Rep S w (treeD x) cs → Rep S' w (treeD y) ct → Calls Tryz.prog g #[.agg cs.toArray, .agg ct.toArray] w (Ret fun v w' => v = .bool (q x y) ∧ Same [] w w')
theorem BothC.ext {w0 w : World} {g : Nat} {xs ys : List Tree} {q : Tree → Tree → Bool} (h : BothC w0 g xs ys q) (hs : Same [] w0 w) : BothC w g xs ys q := fun x hx y hy S S' w' cs ct hw => h x hx y hy S S' w' cs ct (hs.trans hw)
def okAt (q : Tree → Tree → Bool) (ks : List Str) (xs : List Tree) (ks' : List Str) (ys : List Tree) (i : Nat) : Prop := ∀ (h : i < ks.length) (h2 : i < xs.length), ∃ y, lookT ks' ys ks[i] = some y ∧ q xs[i] y = true
theorem memB_true {q : Tree → Tree → Bool} {ks ks' : List Str} {xs ys : List Tree} (h : ∀ i, i < ks.length → okAt q ks xs ks' ys i) : memB q ks xs ks' ys = true := by
  unfold memB
  rw [List.all_eq_true]
  intro p hp
  obtain ⟨i, hi, rfl⟩ := List.getElem_of_mem hp
  rw [List.length_zip] at hi
  obtain ⟨y, h1, h2⟩ := h i (by omega) (by omega) (by omega)
  rw [List.getElem_zip]
  simp only [h1, h2]
theorem memB_false {q : Tree → Tree → Bool} {ks ks' : List Str} {xs ys : List Tree} {i : Nat} (h : i < ks.length) (h2 : i < xs.length) (hn : ∀ y, lookT ks' ys ks[i] = some y → q xs[i] y = false) : memB q ks xs ks' ys = false := by
  unfold memB
  rw [Bool.eq_false_iff]
  intro ha
  have := List.all_eq_true.1 ha ((ks.zip xs)[i]'(by rw [List.length_zip]; omega)) (List.getElem_mem _)
  rw [List.getElem_zip] at this
  simp only at this
  cases hl : lookT ks' ys ks[i] with
  | none => rw [hl] at this; cases this
  | some y => rw [hl] at this; simp only at this; rw [hn y hl] at this; cases this
set_option maxHeartbeats 1000000 in
set_option maxRecDepth 10000 in
theorem mapsEqual_c (q : Tree → Tree → Bool) (ks ks' : List Str) (xs ys : List Tree) (m1 m2 : Nat) (l1 l2 : MapL) (S S' : Nat → Prop) (w0 : World) (h1 : w0.heap[m1]? = some (mapO l1)) (h2 : w0.heap[m2]? = some (mapO l2)) (hk1 : l1.map (·.1) = ks) (hk2 : l2.map (·.1) = ks') (hm1 : MapRep S w0 xs l1) (hm2 : MapRep S' w0 ys l2) (hq : BothC w0 69 xs ys q) : Calls Tryz.prog 105 #[.map (some m1), .map (some m2), .func (.func 69) #[] #[]] w0 (Ret fun v w' => v = .bool (decide (ks.length = ks'.length) && memB q ks xs ks' ys) ∧ Same [] w0 w') := by
 have e1 : l1.length = ks.length := by rw [← hk1, List.length_map]
 have e2 : l2.length = ks'.length := by rw [← hk2, List.length_map]
 refine calls_start Tryz.func105 rfl Tryz.ntmps105 (Nat.le_of_ble_eq_true rfl) (args_3 _ _ _) ?_
 have hF := FR.start w0 []
 refine c_seq (c_region (o_val (v := .bool false) (x_assign rfl) (o_nil (e_seq (c_seq (c_seq (c_region (o_val (v := .map (some m1)) (x_move rfl) (o_val (v := .int .i64 (((l1).length : Nat))) (x_len_map Tryz.underlying58 rfl (hF.heap0 h1)) (o_val (v := .map (some m2)) (x_move rfl) (o_val (v := .int .i64 (((l2).length : Nat))) (x_len_map Tryz.underlying58 rfl (hF.heap0 h2)) (o_val (v := .bool (decide ((((l1).length : Nat) : Int) ≠ (((l2).length : Nat) : Int)))) (x_neq rfl rfl) (o_nil ?_)))))))))))))
 refine e_seq ?_
 refine c_splitd (d := 15) (p := (((l1).length : Nat) : Int) ≠ (((l2).length : Nat) : Int)) rfl (fun hc0 => ?_) (fun hc0 => ?_)
 refine c_ift rfl (c_seq (c_region (o_val (v := .bool false) (x_assign rfl) (o_nil (e_seq ?_)))))
 refine c_ret (e_ret (post_ret (res_1 (v := .bool false) rfl rfl) ?_))
 exact ⟨congrArg Value.bool (by rw [decide_eq_false (by omega)]; rfl), hF.same⟩
 refine c_iff rfl (c_skip (e_seq (c_seq (c_seq (c_region (o_val (v := .map (some m1)) (x_move rfl) ?_))))))
 refine o_new (v := fun b => .pointer (some ⟨b, 0, none⟩)) (o := .mapIter (some m1) (l1).length #[] (l1).length) hF (x_rangeM Tryz.underlying58 rfl (hF.heap0 h1)) ?_
 clear hF; rintro b1 w hb1 hF -
 refine o_nil (e_seq (c_block ?_))
 refine c_loop (fun μ σ w => ∃ (seen : Array Nat), μ = unseen l1.length seen ∧ (∀ i, i < l1.length → seen.contains i = true → okAt q ks xs ks' ys i) ∧ AllEq σ [(1, .map (some m2)), (2, .func (.func 69) #[] #[]), (17, .pointer (some ⟨b1, 0, none⟩))] ∧ FR w0 [] [(b1, .mapIter (some m1) (l1).length (seen) (l1).length)] w) _ ⟨#[], rfl, (fun i _ h => by simp at h), ⟨rfl, rfl, rfl, trivial⟩, hF⟩ ?_
 clear hF; rintro μ σ w ⟨seen, rfl, hs_, hs, hF⟩
 refine Cg.slots hs ?_
 clear hs; intro σ
 refine c_seq (c_region ?_)
 refine o_nextM 0 (b := m1) (l := l1) (seen := seen) hF rfl rfl (hF.heap0 h1) (fun hall => ?_) (fun j w hj hn hF2 hE _ => ?_)
 refine o_val (v := .bool false) (x_extract rfl rfl) (o_nil (e_seq (c_seq (c_iff rfl ?_))))
 refine c_exit (e_exit rfl ?_)
 refine e_seq (c_seq (c_region (o_val (v := .bool true) (x_assign rfl) (o_nil (e_seq ?_)))))
 refine c_ret (e_ret (post_ret (res_1 (v := .bool true) rfl rfl) ?_))
 exact ⟨congrArg Value.bool (by rw [decide_eq_true (by omega), memB_true (fun i hi => hs_ i (by omega) (hall i (by omega)))]; rfl), hF.same⟩
 clear hF
 have hF : FR w0 [] [(b1, .mapIter (some m1) (l1).length ((seen).push j) (l1).length)] w := hF2
 clear hE hF2
 refine o_val (v := .bool true) (x_extract rfl rfl) (o_nil (e_seq (c_seq (c_ift rfl (c_skip (e_seq (c_block (c_seq (c_region ?_)))))))))
 obtain ⟨cx, hcx, hx2, hrx⟩ := hm1 j hj
 have hox := hrx.one_
 have hlx : cx.length = 4 := hrx.length.trans (size_treeD _)
 have hkj : (l1)[j].1 = ks[j]'(by rw [← hk1, List.length_map]; exact hj) := by have := List.getElem_map (·.1) (l := l1) (i := j) (h := by rw [List.length_map]; exact hj); simp only [hk1] at this; exact this.symm
 refine o_val (v := .tuple #[.string (bs ((l1)[j].1)), .agg (List.toArray cx)]) (x_entryM rfl hj (hF.heap (i := 0) rfl) (hF.heap0 h1) (hcx)) (o_val (v := .string (bs ((l1)[j].1))) (x_extract rfl rfl) (o_val (v := .agg (List.toArray cx)) (x_extract rfl rfl) ?_))
 refine o_alloc (cs := #[.int .i64 (0), .string (bs ([])), .slice (none) (0) (0), .slice (none) (0) (0)]) hF Tryz.zeroValue25 rfl ?_
 clear hF; rintro b2 w hb2 hF -
 refine o_val (v := .string (bs ((l1)[j].1))) (x_assign rfl) ?_
 refine o_store 0 (l := cx) (cs' := (List.toArray cx)) hF (by rw [hlx]; exact Tryz.sizeOf25) rfl (v := .agg (List.toArray cx)) rfl rfl (hox) rfl (by rw [hlx]; exact Nat.le_of_ble_eq_true rfl) (putA_all (by rw [hlx]; rfl)) ?_
 clear hF; rintro w hF -
 replace hF : FR w0 [] [(b2, .cells (List.toArray cx) 25), (b1, .mapIter (some m1) (l1).length ((seen).push j) (l1).length)] w := hF
 refine o_nil (e_seq (c_seq (c_region (o_val (v := .map (some m2)) (x_move rfl) (o_val (v := .string (bs ((l1)[j].1))) (x_move rfl) ?_)))))
 rcases lookM_tree (l1)[j].1 hk2 hm2 with ⟨hlk, hlt⟩ | ⟨cy, y, hlk, hlt, hym, hry⟩
 refine o_val (v := .tuple #[.agg #[.int .i64 (0), .string (bs ([])), .slice (none) (0) (0), .slice (none) (0) (0)], .bool false]) (x_lookup2E Tryz.underlying58 Tryz.underlying9 Tryz.zeroValue25 rfl rfl (hF.heap0 h2) (by rw [hlk]; rfl) (by rw [hlk]; rfl)) ?_
 refine o_val (v := .tuple #[.agg #[.int .i64 (0), .string (bs ([])), .slice (none) (0) (0), .slice (none) (0) (0)], .bool false]) (x_move rfl) (o_val (v := .agg #[.int .i64 (0), .string (bs ([])), .slice (none) (0) (0), .slice (none) (0) (0)]) (x_extract rfl rfl) (o_val (v := .bool false) (x_extract rfl rfl) ?_))
 refine o_lay (l := [.int .i64 (0), .string (bs ([])), .slice (none) (0) (0), .slice (none) (0) (0)]) hF Tryz.zeroValue25 Tryz.sizeOf25 rfl (v := .agg #[.int .i64 (0), .string (bs ([])), .slice (none) (0) (0), .slice (none) (0) (0)]) rfl rfl (by simp [one]) rfl ?_
 clear hF; rintro b3 w hb3 hF -
 refine o_val (v := .bool false) (x_assign rfl) (o_nil (e_seq (c_seq (c_region (o_val (v := .bool false) (x_move rfl) (o_val (v := .bool true) (x_not (b := false) rfl) (o_val (v := .bool true) (x_move rfl) (o_off (o_off (o_off (o_off (o_off (o_val (v := .bool true) (x_pickt rfl rfl) ?_)))))))))))))
 refine o_nil (e_seq (c_ift rfl (c_seq (c_region (o_val (v := .bool false) (x_assign rfl) (o_nil (e_seq ?_)))))))
 refine c_ret (e_ret (post_ret (res_1 (v := .bool false) rfl rfl) ?_))
 exact ⟨congrArg Value.bool (by rw [memB_false (i := j) (by omega) hx2 (fun y hy => by rw [← hkj, hlt] at hy; cases hy), Bool.and_false]), hF.same⟩
 have hoy := hry.one_
 have hly : cy.length = 4 := hry.length.trans (size_treeD _)
 refine o_val (v := .tuple #[.agg (List.toArray cy), .bool true]) (x_lookup2E Tryz.underlying58 Tryz.underlying9 Tryz.zeroValue25 rfl rfl (hF.heap0 h2) (by rw [hlk]; rfl) (by rw [hlk]; rfl)) ?_
 refine o_val (v := .tuple #[.agg (List.toArray cy), .bool true]) (x_move rfl) (o_val (v := .agg (List.toArray cy)) (x_extract rfl rfl) (o_val (v := .bool true) (x_extract rfl rfl) ?_))
 refine o_lay (l := cy) hF Tryz.zeroValue25 (by rw [hly]; exact Tryz.sizeOf25) (by rw [hly]; rfl) (v := .agg (List.toArray cy)) rfl rfl (hoy) rfl ?_
 clear hF; rintro b4 w hb4 hF -
 refine o_val (v := .bool true) (x_assign rfl) (o_nil (e_seq (c_seq (c_region (o_val (v := .bool true) (x_move rfl) (o_val (v := .bool false) (x_not (b := true) rfl) (o_val (v := .bool false) (x_move rfl) (o_val (v := .func (.func 69) #[] #[]) (x_move rfl) (o_val (v := .agg (List.toArray cx)) (x_loadS (l := cx) Tryz.isAgg25 Tryz.sizeOf25 rfl hlx (hF.cellsAll 1 rfl)) (o_val (v := .agg (List.toArray cy)) (x_loadS (l := cy) Tryz.isAgg25 Tryz.sizeOf25 rfl hly (hF.cellsAll 0 rfl)) ?_))))))))))
 refine o_call (hq _ (List.getElem_mem hx2) y hym S S' _ cx cy hF.same (hF.rep hrx) (hF.rep hry)) (x_callv2 rfl en_69 rfl rfl rfl) ?_
 rintro _ w ⟨rfl, hE⟩
 replace hF := hF.ext hE
 clear hE
 refine o_val (v := .bool (!(q xs[j] y))) (x_not rfl) (o_val (v := .bool (!(q xs[j] y))) (x_pickf rfl rfl) (o_nil (e_seq ?_)))
 refine c_split (d := 37) (b := !(q xs[j] y)) rfl (fun hc2 => ?_) (fun hc2 => ?_)
 refine c_ift rfl (c_seq (c_region (o_val (v := .bool false) (x_assign rfl) (o_nil (e_seq ?_)))))
 refine c_ret (e_ret (post_ret (res_1 (v := .bool false) rfl rfl) ?_))
 exact ⟨congrArg Value.bool (by rw [memB_false (i := j) (by omega) hx2 (fun y1 hy => by rw [← hkj, hlt] at hy; injection hy with hy; subst hy; simpa using hc2), Bool.and_false]), hF.same⟩
 refine c_iff rfl (c_skip (e_block ?_))
 refine e_inv ⟨_, ?_, seen.push j, rfl, (fun i hi hc => by rw [contains_push] at hc; rcases Bool.or_eq_true_iff.1 hc with hc | hc; exact hs_ i hi hc; obtain rfl := beq_iff_eq.1 hc; exact fun h _ => ⟨y, by rw [← hkj]; exact hlt, by simpa using hc2⟩), ⟨rfl, rfl, rfl, trivial⟩, hF.drop 2⟩
 exact unseen_push hj hn
end Go.Scarf
namespace Go.Scarf
open Go.RowKit Go.Proofs
mutual
def sameT : Tree → Tree → Bool
  | .node k t ks xs, .node k' t' ks' ys => decide (k = k') && decide (t = t') && decide (xs.length = ys.length) && (if k ≠ 6 then sameL xs ys else decide (ks.length = ks'.length) && sameM xs ks ks' ys)
def sameL : List Tree → List Tree → Bool
  | x :: xs, y :: ys => sameT x y && sameL xs ys
  | _, _ => true
def sameM : List Tree → List Str → List Str → List Tree → Bool
  | x :: xs, k :: ks, ks', ys => (match lookT ks' ys k with | some y => sameT x y | none => false) && sameM xs ks ks' ys
  | _, _, _, _ => true
end
def pairB (q : Tree → Tree → Bool) (xs ys : List Tree) : Bool := decide (xs.length = ys.length) && (xs.zip ys).all fun p => q p.1 p.2
theorem sameL_eq : ∀ xs ys : List Tree, ((xs.zip ys).all fun p => sameT p.1 p.2) = sameL xs ys
  | [], ys => by cases ys <;> simp [sameL]
  | x :: xs, [] => by simp [sameL]
  | x :: xs, y :: ys => by rw [List.zip_cons_cons, List.all_cons, sameL_eq xs ys, sameL]
theorem sameM_eq : ∀ (xs : List Tree) (ks ks' : List Str) (ys : List Tree), memB sameT ks xs ks' ys = sameM xs ks ks' ys
  | [], ks, ks', ys => by cases ks <;> simp [memB, sameM]
  | x :: xs, [], ks', ys => by simp [memB, sameM]
  | x :: xs, k :: ks, ks', ys => by
    have := sameM_eq xs ks ks' ys
    unfold memB at this ⊢
    rw [List.zip_cons_cons, List.all_cons, this, sameM]
    try rfl
theorem all_pair_take {q : Tree → Tree → Bool} {xs ys : List Tree} {j : Nat} (h : j < xs.length) (h2 : j < ys.length) (ha : ((xs.take j).zip (ys.take j)).all (fun p => q p.1 p.2) = true) (hq : q xs[j] ys[j] = true) : ((xs.take (j + 1)).zip (ys.take (j + 1))).all (fun p => q p.1 p.2) = true := by
  rw [List.take_succ_eq_append_getElem h, List.take_succ_eq_append_getElem h2, List.zip_append (by rw [List.length_take, List.length_take]; omega), List.all_append, ha]
  simp [hq]
theorem pair_false {q : Tree → Tree → Bool} {xs ys : List Tree} {j : Nat} (h : j < xs.length) (h2 : j < ys.length) (hq : q xs[j] ys[j] = false) : ((xs.zip ys).all fun p => q p.1 p.2) = false := by
  rw [Bool.eq_false_iff]; intro ha
  have := List.all_eq_true.1 ha ((xs.zip ys)[j]'(by rw [List.length_zip]; omega)) (List.getElem_mem _)
  rw [List.getElem_zip] at this
  simp only [hq] at this; cases this
theorem MapRep.ext {S : Nat → Prop} {w w' : World} {xs : List Tree} {l : MapL} (h : MapRep S w xs l) (hs : Same [] w w') : MapRep S w' xs l := fun i hi => by
  obtain ⟨cs, h1, h2, h3⟩ := h i hi
  exact ⟨cs, h1, h2, h3.ext hs⟩
theorem Same.heap {w w' : World} {b : Nat} {o : Obj} (hs : Same [] w w') (h : w.heap[b]? = some o) : w'.heap[b]? = some o := (hs.block b (lt_of_some h) (by simp)).trans h
theorem allTs_mem {q : Tree → Bool} : ∀ {xs : List Tree}, allTs q xs = true → ∀ x ∈ xs, allT q x = true
  | [], _, _, h => absurd h (by simp)
  | y :: ys, h, x, hx => by
    rw [allTs, Bool.and_eq_true] at h
    rcases List.mem_cons.1 hx with rfl | hx
    · exact h.1
    · exact allTs_mem h.2 x hx
theorem allT_node {q : Tree → Bool} {k : Int} {t : Str} {ks : List Str} {xs : List Tree} (h : allT q (.node k t ks xs) = true) : q (.node k t ks xs) = true ∧ ∀ x ∈ xs, allT q x = true := by
  rw [allT, Bool.and_eq_true] at h
  exact ⟨h.1, allTs_mem h.2⟩
theorem node6 {t : Str} {ks : List Str} {xs : List Tree} (h : nodeB (.node 6 t ks xs) = true) : ks.Nodup ∧ ks.length = xs.length := by
  simp only [nodeB, keyedB] at h
  simp at h
  exact ⟨h.1.1.1, by omega⟩
def SameC (x : Tree) : Prop := ∀ y S S' w0 cs ct, Rep S w0 (treeD x) cs → Rep S' w0 (treeD y) ct → allT nodeB x = true → allT nodeB y = true → Calls Tryz.prog 69 #[.agg cs.toArray, .agg ct.toArray] w0 (Ret fun v w' => v = .bool (sameT x y) ∧ Same [] w0 w')
set_option maxHeartbeats 1000000 in
set_option maxRecDepth 10000 in
theorem equalFunc_c (q : Tree → Tree → Bool) (xs ys : List Tree) (B B' : Option Addr) (e e' : Nat) (S S' : Nat → Prop) (w0 : World) (hX : Rep S w0 (.slice (treesD xs)) [.slice B xs.length e]) (hY : Rep S' w0 (.slice (treesD ys)) [.slice B' ys.length e']) (hq : BothC w0 69 xs ys q) : Calls Tryz.prog 104 #[.slice B xs.length e, .slice B' ys.length e', .func (.func 69) #[] #[]] w0 (Ret fun v w' => v = .bool (pairB q xs ys) ∧ Same [] w0 w') := by
 have hXl := hX.slice_len
 have hYl := hY.slice_len
 refine calls_start Tryz.func104 rfl Tryz.ntmps104 (Nat.le_of_ble_eq_true rfl) (args_3 _ _ _) ?_
 have hF := FR.start w0 []
 refine c_seq (c_region (o_val (v := .bool false) (x_assign rfl) (o_nil (e_seq (c_seq (c_seq (c_region (o_val (v := .slice (B) (xs.length) (e)) (x_move rfl) (o_val (v := .int .i64 ((xs.length : Nat))) (x_len_slice Tryz.underlying23 rfl) (o_val (v := .slice (B') (ys.length) (e')) (x_move rfl) (o_val (v := .int .i64 ((ys.length : Nat))) (x_len_slice Tryz.underlying23 rfl) (o_val (v := .bool (decide (((xs.length : Nat) : Int) ≠ ((ys.length : Nat) : Int)))) (x_neq rfl rfl) (o_nil ?_)))))))))))))
 refine e_seq ?_
 refine c_splitd (d := 14) (p := ((xs.length : Nat) : Int) ≠ ((ys.length : Nat) : Int)) rfl (fun hc0 => ?_) (fun hc0 => ?_)
 refine c_ift rfl (c_seq (c_region (o_val (v := .bool false) (x_assign rfl) (o_nil (e_seq ?_)))))
 refine c_ret (e_ret (post_ret (res_1 (v := .bool false) rfl rfl) ?_))
 exact ⟨congrArg Value.bool (by unfold pairB; rw [decide_eq_false (by omega)]; rfl), hF.same⟩
 refine c_iff rfl (c_skip (e_seq (c_seq (c_seq (c_region (o_val (v := .slice (B) (xs.length) (e)) (x_move rfl) (o_val (v := .int .i64 ((xs.length : Nat))) (x_len_slice Tryz.underlying23 rfl) (o_val (v := .int .i64 (0)) (x_move rfl) (o_nil (e_seq (c_block ?_)))))))))))
 refine c_loop (fun μ σ w => ∃ (j : Nat), μ = xs.length - j ∧ (j ≤ xs.length) ∧ (((xs.take j).zip (ys.take j)).all (fun p => q p.1 p.2) = true) ∧ AllEq σ [(1, .slice (B') (ys.length) (e')), (2, .func (.func 69) #[] #[]), (15, .slice (B) (xs.length) (e)), (16, .int .i64 ((xs.length : Nat))), (17, .int .i64 ((j : Int)))] ∧ FR w0 [] [] w) _ ⟨0, rfl, (Nat.zero_le _), (by simp), ⟨rfl, rfl, rfl, rfl, rfl, trivial⟩, hF⟩ ?_
 clear hF; rintro μ σ w ⟨j, rfl, hj, ha, hs, hF⟩
 refine Cg.slots hs ?_
 clear hs; intro σ
 refine c_seq (c_region (o_val (v := .bool (decide (((j : Int) : Int) < ((xs.length : Nat) : Int)))) (x_lss rfl rfl) (o_nil (e_seq (c_seq ?_)))))
 refine c_splitd (d := 18) (p := ((j : Int) : Int) < ((xs.length : Nat) : Int)) rfl (fun hc1 => ?_) (fun hc1 => ?_)
 refine c_ift rfl (c_skip (e_seq (c_seq (c_block (c_seq (c_region (o_val (v := .int .i64 ((j : Int))) (x_move rfl) ?_)))))))
 obtain ⟨ad0, cs0, hA0, hl0, hk0, hx0⟩ := hX.tree_elem (i := j) (by omega)
 have ho0 := hx0.one_
 refine o_val (v := .pointer (some (ad0.add (j * 4)))) (x_indexAddrA (i := (j : Int)) sl_23 rfl hA0 rfl (by omega) (by omega)) (o_val (v := .agg (List.toArray cs0)) (x_loadS (l := cs0) Tryz.isAgg25 Tryz.sizeOf25 rfl hl0 (hF.cells0 hk0)) ?_)
 refine o_alloc (cs := #[.int .i64 (0), .string (bs ([])), .slice (none) (0) (0), .slice (none) (0) (0)]) hF Tryz.zeroValue25 rfl ?_
 clear hF; rintro b1 w hb1 hF -
 refine o_val (v := .int .i64 ((j : Int))) (x_assign rfl) ?_
 refine o_store 0 (l := cs0) (cs' := (List.toArray cs0)) hF (by rw [hl0]; exact Tryz.sizeOf25) rfl (v := .agg (List.toArray cs0)) rfl rfl (ho0) rfl (by rw [hl0]; exact Nat.le_of_ble_eq_true rfl) (putA_all (by rw [hl0]; rfl)) ?_
 clear hF; rintro w hF -
 replace hF : FR w0 [] [(b1, .cells (List.toArray cs0) 25)] w := hF
 refine o_nil (e_seq (c_seq (c_region (o_val (v := .slice (B') (ys.length) (e')) (x_move rfl) (o_val (v := .int .i64 ((j : Int))) (x_move rfl) ?_)))))
 obtain ⟨ad1, cs1, hA1, hl1, hk1, hx1⟩ := hY.tree_elem (i := j) (by omega)
 have ho1 := hx1.one_
 refine o_val (v := .pointer (some (ad1.add (j * 4)))) (x_indexAddrA (i := (j : Int)) sl_23 rfl hA1 rfl (by omega) (by omega)) (o_val (v := .agg (List.toArray cs1)) (x_loadS (l := cs1) Tryz.isAgg25 Tryz.sizeOf25 rfl hl1 (hF.cells0 hk1)) ?_)
 refine o_lay (l := cs1) hF Tryz.zeroValue25 (by rw [hl1]; exact Tryz.sizeOf25) (by rw [hl1]; rfl) (v := .agg (List.toArray cs1)) rfl rfl (ho1) rfl ?_
 clear hF; rintro b2 w hb2 hF -
 refine o_nil (e_seq (c_seq (c_region (o_val (v := .func (.func 69) #[] #[]) (x_move rfl) (o_val (v := .agg (List.toArray cs0)) (x_loadS (l := cs0) Tryz.isAgg25 Tryz.sizeOf25 rfl hl0 (hF.cellsAll 1 rfl)) (o_val (v := .agg (List.toArray cs1)) (x_loadS (l := cs1) Tryz.isAgg25 Tryz.sizeOf25 rfl hl1 (hF.cellsAll 0 rfl)) ?_))))))
 refine o_call (hq _ (List.getElem_mem (l := xs) (n := j) (by omega)) _ (List.getElem_mem (l := ys) (n := j) (by omega)) _ _ _ _ _ hF.same (hF.rep hx0) (hF.rep hx1)) (x_callv2 rfl en_69 rfl rfl rfl) ?_
 rintro _ w ⟨rfl, hE⟩
 replace hF := hF.ext hE
 clear hE
 refine o_val (v := .bool (!(q xs[j] ys[j]))) (x_not rfl) (o_nil (e_seq ?_))
 refine c_split (d := 30) (b := !(q xs[j] ys[j])) rfl (fun hc2 => ?_) (fun hc2 => ?_)
 refine c_ift rfl (c_seq (c_region (o_val (v := .bool false) (x_assign rfl) (o_nil (e_seq ?_)))))
 refine c_ret (e_ret (post_ret (res_1 (v := .bool false) rfl rfl) ?_))
 exact ⟨congrArg Value.bool (by unfold pairB; rw [pair_false (j := j) (by omega) (by omega) (by simpa using hc2), Bool.and_false]), hF.same⟩
 refine c_iff rfl (c_skip (e_block (e_seq (c_region (o_val (v := .int .i64 (((j : Int) : Int) + 1)) (x_add rfl rfl (wrap_id (by omega) (by omega))) (o_val (v := .int .i64 (((j : Int) : Int) + 1)) (x_move rfl) (o_nil ?_)))))))
 refine e_inv ⟨_, ?_, j + 1, rfl, (by omega), (all_pair_take (by omega) (by omega) ha (by simpa using hc2)), ⟨rfl, rfl, rfl, rfl, rfl, trivial⟩, hF.drop 2⟩
 omega
 refine c_iff rfl ?_
 refine c_exit (e_exit rfl ?_)
 refine e_seq (c_seq (c_region (o_val (v := .bool true) (x_assign rfl) (o_nil (e_seq ?_)))))
 refine c_ret (e_ret (post_ret (res_1 (v := .bool true) rfl rfl) ?_))
 have eX : xs.take j = xs := List.take_of_length_le (by omega)
 have eY : ys.take j = ys := List.take_of_length_le (by omega)
 rw [eX, eY] at ha
 exact ⟨congrArg Value.bool (by unfold pairB; rw [ha, decide_eq_true (by omega)]; rfl), hF.same⟩
set_option maxHeartbeats 4000000 in
set_option maxRecDepth 10000 in
theorem same_step (k : Int) (t : Str) (ks : List Str) (xs : List Tree) (ih : ∀ x, x ∈ xs → SameC x) : SameC (.node k t ks xs) := by
 rintro ⟨k', t', ks', ys⟩ S S' w0 cs ct hR hR' hnx hny
 replace hnx := allT_node hnx
 replace hny := allT_node hny
 obtain ⟨A, c, B, e, rfl, -, -, hK, hX⟩ := hR.tree_inv
 obtain ⟨A', c', B', e', rfl, -, -, hK', hY⟩ := hR'.tree_inv
 have hXl := hX.slice_len
 have hYl := hY.slice_len
 refine calls_start Tryz.func69 rfl Tryz.ntmps69 (Nat.le_of_ble_eq_true rfl) (args_2 _ _) ?_
 have hF := FR.start w0 []
 refine c_seq (c_region ?_)
 refine o_box (v := .agg #[.int .i64 (k), .string (bs (t)), .slice (A) (ks.length) (c), .slice (B) (xs.length) (e)]) (cs := #[.int .i64 (k), .string (bs (t)), .slice (A) (ks.length) (c), .slice (B) (xs.length) (e)]) hF rfl rfl ?_
 clear hF; rintro b1 w hb1 hF -
 refine o_box (v := .agg #[.int .i64 (k'), .string (bs (t')), .slice (A') (ks'.length) (c'), .slice (B') (ys.length) (e')]) (cs := #[.int .i64 (k'), .string (bs (t')), .slice (A') (ks'.length) (c'), .slice (B') (ys.length) (e')]) hF rfl rfl ?_
 clear hF; rintro b2 w hb2 hF -
 refine o_val (v := .bool false) (x_assign rfl) (o_nil (e_seq (c_seq (c_block (c_seq (c_seq (c_region (o_val (v := .pointer (some ⟨b1, 0, none⟩)) (x_fieldAddrO fa_25_0 rfl) (o_val (v := .int .i64 (k)) (x_load Tryz.isAgg3 rfl (hF.cell 1 rfl rfl)) (o_val (v := .pointer (some ⟨b2, 0, none⟩)) (x_fieldAddrO fa_25_0 rfl) (o_val (v := .int .i64 (k')) (x_load Tryz.isAgg3 rfl (hF.cell 0 rfl rfl)) (o_val (v := .bool (decide ((k : Int) ≠ (k' : Int)))) (x_neq rfl rfl) (o_val (v := .bool (decide ((k : Int) ≠ (k' : Int)))) (x_assign rfl) ?_)))))))))))))
 refine o_nil (e_seq ?_)
 refine c_splitd (d := 5) (p := (k : Int) ≠ (k' : Int)) rfl (fun hc0 => ?_) (fun hc0 => ?_)
 refine c_ift rfl (c_skip (e_seq (c_ift rfl (c_seq (c_region (o_val (v := .bool false) (x_assign rfl) (o_nil (e_seq ?_))))))))
 refine c_ret (e_ret (post_ret (res_1 (v := .bool false) rfl rfl) ?_))
 refine ⟨congrArg Value.bool ?_, hF.same⟩
 rw [sameT]
 clear hF hXl hYl hR hR' hX hY hK hK' ih hnx hny
 · first | (simp_all [pairB, sameL_eq, sameM_eq]; done) | (simp_all [pairB, sameL_eq, sameM_eq]; omega)
 refine c_iff rfl (c_seq (c_region (o_val (v := .pointer (some ⟨b1, 1, none⟩)) (x_fieldAddrO fa_25_1 rfl) (o_val (v := .string (bs (t))) (x_load Tryz.isAgg9 rfl (hF.cell 1 rfl rfl)) (o_val (v := .pointer (some ⟨b2, 1, none⟩)) (x_fieldAddrO fa_25_1 rfl) (o_val (v := .string (bs (t'))) (x_load Tryz.isAgg9 rfl (hF.cell 0 rfl rfl)) (o_val (v := .bool (decide ((t : Str) ≠ t'))) (x_neqs rfl rfl) (o_val (v := .bool (decide ((t : Str) ≠ t'))) (x_assign rfl) (o_nil (e_seq ?_))))))))))
 refine c_splitd (d := 5) (p := (t : Str) ≠ t') rfl (fun hc1 => ?_) (fun hc1 => ?_)
 refine c_ift rfl (c_skip (e_seq (c_ift rfl (c_seq (c_region (o_val (v := .bool false) (x_assign rfl) (o_nil (e_seq ?_))))))))
 refine c_ret (e_ret (post_ret (res_1 (v := .bool false) rfl rfl) ?_))
 refine ⟨congrArg Value.bool ?_, hF.same⟩
 rw [sameT]
 clear hF hXl hYl hR hR' hX hY hK hK' ih hnx hny
 · first | (simp_all [pairB, sameL_eq, sameM_eq]; done) | (simp_all [pairB, sameL_eq, sameM_eq]; omega)
 refine c_iff rfl (c_region (o_val (v := .pointer (some ⟨b1, 3, none⟩)) (x_fieldAddrO fa_25_3 rfl) (o_val (v := .slice (B) (xs.length) (e)) (x_load Tryz.isAgg23 rfl (hF.cell 1 rfl rfl)) (o_val (v := .int .i64 ((xs.length : Nat))) (x_len_slice Tryz.underlying23 rfl) (o_val (v := .pointer (some ⟨b2, 3, none⟩)) (x_fieldAddrO fa_25_3 rfl) (o_val (v := .slice (B') (ys.length) (e')) (x_load Tryz.isAgg23 rfl (hF.cell 0 rfl rfl)) (o_val (v := .int .i64 ((ys.length : Nat))) (x_len_slice Tryz.underlying23 rfl) (o_val (v := .bool (decide (((xs.length : Nat) : Int) ≠ ((ys.length : Nat) : Int)))) (x_neq rfl rfl) (o_val (v := .bool (decide (((xs.length : Nat) : Int) ≠ ((ys.length : Nat) : Int)))) (x_assign rfl) (o_nil (e_seq ?_)))))))))))
 refine c_splitd (d := 5) (p := ((xs.length : Nat) : Int) ≠ ((ys.length : Nat) : Int)) rfl (fun hc2 => ?_) (fun hc2 => ?_)
 refine c_ift rfl (c_seq (c_region (o_val (v := .bool false) (x_assign rfl) (o_nil (e_seq ?_)))))
 refine c_ret (e_ret (post_ret (res_1 (v := .bool false) rfl rfl) ?_))
 refine ⟨congrArg Value.bool ?_, hF.same⟩
 rw [sameT]
 clear hF hXl hYl hR hR' hX hY hK hK' ih hnx hny
 · first | (simp_all [pairB, sameL_eq, sameM_eq]; done) | (simp_all [pairB, sameL_eq, sameM_eq]; omega)
 refine c_iff rfl (c_seq (c_region (o_val (v := .pointer (some ⟨b1, 0, none⟩)) (x_fieldAddrO fa_25_0 rfl) (o_val (v := .int .i64 (k)) (x_load Tryz.isAgg3 rfl (hF.cell 1 rfl rfl)) (o_val (v := .bool (decide ((k : Int) ≠ (6 : Int)))) (x_neq rfl rfl) (o_val (v := .bool (decide ((k : Int) ≠ (6 : Int)))) (x_assign rfl) (o_nil (e_seq ?_))))))))
 refine c_splitd (d := 23) (p := (k : Int) ≠ (6 : Int)) rfl (fun hc3 => ?_) (fun hc3 => ?_)
 refine c_ift rfl (c_seq (c_region (o_val (v := .pointer (some ⟨b1, 3, none⟩)) (x_fieldAddrO fa_25_3 rfl) (o_val (v := .slice (B) (xs.length) (e)) (x_load Tryz.isAgg23 rfl (hF.cell 1 rfl rfl)) (o_val (v := .pointer (some ⟨b2, 3, none⟩)) (x_fieldAddrO fa_25_3 rfl) (o_val (v := .slice (B') (ys.length) (e')) (x_load Tryz.isAgg23 rfl (hF.cell 0 rfl rfl)) ?_))))))
 refine o_call (equalFunc_c sameT xs ys B B' e e' S S' _ (hF.rep hX) (hF.rep hY) (fun x hx y hy S1 S2 w1 cs1 ct1 _ h1 h2 => ih x hx y S1 S2 w1 cs1 ct1 h1 h2 (hnx.2 x hx) (hny.2 y hy))) (x_call3 en_104 rfl rfl rfl rfl) ?_
 rintro _ w ⟨rfl, hE⟩
 replace hF := hF.ext hE
 clear hE
 refine o_val (v := .bool (pairB sameT xs ys)) (x_assign rfl) (o_nil (e_seq ?_))
 refine c_ret (e_ret (post_ret (res_1 (v := .bool (pairB sameT xs ys)) rfl rfl) ?_))
 refine ⟨congrArg Value.bool ?_, hF.same⟩
 rw [sameT]
 clear hF hXl hYl hR hR' hX hY hK hK' ih hnx hny
 · first | (simp_all [pairB, sameL_eq, sameM_eq]; done) | (simp_all [pairB, sameL_eq, sameM_eq]; omega)
 refine c_iff rfl (c_skip (e_block (e_seq (c_seq ?_))))
 refine c_drawF [] (.free 0 (.free 2 (.act 1 (.act 3 (.act 4 (.free 5 .nil)))))) (by kernel_rfl) hF (by kernel_rfl) (by kernel_rfl) ?_
 clear hF; rintro w hF -
 refine ⟨fun wq => FR w0 [] [(b2, .cells #[.int .i64 (k'), .string (bs (t')), .slice (A') (ks'.length) (c'), .slice (B') (ys.length) (e')] 25), (b1, .cells #[.int .i64 (k), .string (bs (t)), .slice (A) (ks.length) (c), .slice (B) (xs.length) (e)] 25)] wq, hF, ?_⟩
 refine f_free rfl (v := .agg #[.int .i64 (k), .string (bs (t)), .slice (A) (ks.length) (c), .slice (B) (xs.length) (e)]) (fun w hC => x_loadS (l := [.int .i64 (k), .string (bs (t)), .slice (A) (ks.length) (c), .slice (B) (xs.length) (e)]) Tryz.isAgg25 Tryz.sizeOf25 rfl rfl (hC.cellsAll 1 rfl)) (f_free rfl (v := .agg #[.int .i64 (k'), .string (bs (t')), .slice (A') (ks'.length) (c'), .slice (B') (ys.length) (e')]) (fun w hC => x_loadS (l := [.int .i64 (k'), .string (bs (t')), .slice (A') (ks'.length) (c'), .slice (B') (ys.length) (e')]) Tryz.isAgg25 Tryz.sizeOf25 rfl rfl (hC.cellsAll 0 rfl)) ?_)
 have k6 : k = 6 := by simpa using hc3
 refine f_call rfl (members_c k t ks xs (node6 (k6 ▸ hnx.1)).1 (node6 (k6 ▸ hnx.1)).2 S _ _ (hF.rep hR)) (x_call1 en_56 rfl rfl) ?_
 rintro _ w ⟨m1, l1, rfl, -, hm1, hk1, hr1, hE⟩
 replace hF := hF.ext hE
 clear hE
 refine ⟨hF, ?_⟩
 have k6' : k' = 6 := by omega
 refine f_call rfl (members_c k' t' ks' ys (node6 (k6' ▸ hny.1)).1 (node6 (k6' ▸ hny.1)).2 S' _ _ (hF.rep hR')) (x_call1 en_56 rfl rfl) ?_
 rintro _ w ⟨m2, l2, rfl, -, hm2, hk2, hr2, hE⟩
 replace hF := hF.ext hE
 replace hm1 := hE.heap hm1
 replace hr1 := hr1.ext hE
 clear hE
 refine ⟨hF, ?_⟩
 refine f_call rfl (mapsEqual_c sameT ks ks' xs ys m1 m2 l1 l2 S S' _ hm1 hm2 hk1 hk2 hr1 hr2 (fun x hx y hy S1 S2 w1 cs1 ct1 _ h1 h2 => ih x hx y S1 S2 w1 cs1 ct1 h1 h2 (hnx.2 x hx) (hny.2 y hy))) (x_call3 en_105 rfl rfl rfl rfl) ?_
 rintro _ w ⟨rfl, hE⟩
 replace hF := hF.ext hE
 clear hE
 refine ⟨hF, ?_⟩
 refine f_free rfl (v := .bool ((decide (ks.length = ks'.length) && memB sameT ks xs ks' ys))) (fun w hC => x_assign rfl) (d_nil (e_seq ?_))
 refine c_ret (e_ret (post_ret (res_1 (v := .bool ((decide (ks.length = ks'.length) && memB sameT ks xs ks' ys))) rfl rfl) ?_))
 refine ⟨congrArg Value.bool ?_, hF.same⟩
 rw [sameT]
 clear hF hXl hYl hR hR' hX hY hK hK' ih hnx hny
 · first | (simp_all [pairB, sameL_eq, sameM_eq]; done) | (simp_all [pairB, sameL_eq, sameM_eq]; omega)
theorem same_c (x : Tree) : SameC x := Tree.ind same_step x
end Go.Scarf
namespace Go.Scarf
open Go.RowKit Go.Proofs
def cmpL {α : Type} (f : α → α → Int) : List α → List α → Int
  | [], [] => 0
  | [], _ :: _ => -1
  | _ :: _, [] => 1
  | x :: xs, y :: ys => if f x y ≠ 0 then f x y else cmpL f xs ys
theorem cmpL_step {α : Type} {f : α → α → Int} {xs ys : List α} {j : Nat} (h : j < xs.length) (h2 : j < ys.length) (hq : f xs[j] ys[j] = 0) : cmpL f (xs.drop j) (ys.drop j) = cmpL f (xs.drop (j + 1)) (ys.drop (j + 1)) := by
  rw [List.drop_eq_getElem_cons h, List.drop_eq_getElem_cons h2, cmpL, if_neg (by simpa using hq)]
theorem cmpL_at {α : Type} {f : α → α → Int} {xs ys : List α} {j : Nat} (h : j < xs.length) (h2 : j < ys.length) (hq : f xs[j] ys[j] ≠ 0) : cmpL f (xs.drop j) (ys.drop j) = f xs[j] ys[j] := by
  rw [List.drop_eq_getElem_cons h, List.drop_eq_getElem_cons h2, cmpL, if_pos hq]
theorem cmpL_more {α : Type} {f : α → α → Int} {xs ys : List α} {j : Nat} (h : j < xs.length) (h2 : ys.length ≤ j) : cmpL f (xs.drop j) (ys.drop j) = 1 := by
  rw [List.drop_eq_getElem_cons h, List.drop_eq_nil_of_le h2, cmpL]
theorem cmpL_less {α : Type} {f : α → α → Int} {xs ys : List α} {j : Nat} (h : xs.length ≤ j) (h2 : j < ys.length) : cmpL f (xs.drop j) (ys.drop j) = -1 := by
  rw [List.drop_eq_getElem_cons h2, List.drop_eq_nil_of_le h, cmpL]
theorem cmpL_end {α : Type} {f : α → α → Int} {xs ys : List α} {j : Nat} (h : xs.length ≤ j) (h2 : ys.length ≤ j) : cmpL f (xs.drop j) (ys.drop j) = 0 := by
  rw [List.drop_eq_nil_of_le h2, List.drop_eq_nil_of_le h, cmpL]
def BothI (w0 : World) (g : Nat) (xs ys : List Tree) (q : Tree → Tree → Int) : Prop := ∀ x, x ∈ xs → ∀ y, y ∈ ys → ∀ S S' w cs ct, Same [] w0 w → Rep S w (treeD x) cs → Rep S' w (treeD y) ct → Calls Tryz.prog g #[.agg cs.toArray, .agg ct.toArray] w (Ret fun v w' => v = .int .i64 (q x y) ∧ Same [] w w')
theorem BothI.ext {w0 w : World} {g : Nat} {xs ys : List Tree} {q : Tree → Tree → Int} (h : BothI w0 g xs ys q) (hs : Same [] w0 w) : BothI w g xs ys q := fun x hx y hy S S' w' cs ct hw => h x hx y hy S S' w' cs ct (hs.trans hw)
set_option maxHeartbeats 1000000 in
set_option maxRecDepth 10000 in
theorem compareTrees_c (q : Tree → Tree → Int) (xs ys : List Tree) (B B' : Option Addr) (e e' : Nat) (S S' : Nat → Prop) (w0 : World) (hX : Rep S w0 (.slice (treesD xs)) [.slice B xs.length e]) (hY : Rep S' w0 (.slice (treesD ys)) [.slice B' ys.length e']) (hq : BothI w0 68 xs ys q) : Calls Tryz.prog 134 #[.slice B xs.length e, .slice B' ys.length e', .func (.func 68) #[] #[]] w0 (Ret fun v w' => v = .int .i64 (cmpL q xs ys) ∧ Same [] w0 w') := by
 have hXl := hX.slice_len
 have hYl := hY.slice_len
 refine calls_start Tryz.func134 rfl Tryz.ntmps134 (Nat.le_of_ble_eq_true rfl) (args_3 _ _ _) ?_
 have hF := FR.start w0 []
 refine c_seq (c_region (o_val (v := .int .i64 (0)) (x_assign rfl) (o_nil (e_seq (c_seq (c_seq (c_region (o_val (v := .slice (B) (xs.length) (e)) (x_move rfl) (o_val (v := .int .i64 ((xs.length : Nat))) (x_len_slice Tryz.underlying23 rfl) (o_val (v := .int .i64 (0)) (x_move rfl) (o_nil (e_seq (c_block ?_)))))))))))))
 refine c_loop (fun μ σ w => ∃ (j : Nat), μ = xs.length - j ∧ (j ≤ xs.length) ∧ (j ≤ ys.length) ∧ (cmpL q xs ys = cmpL q (xs.drop j) (ys.drop j)) ∧ AllEq σ [(0, .slice (B) (xs.length) (e)), (1, .slice (B') (ys.length) (e')), (2, .func (.func 68) #[] #[]), (11, .slice (B) (xs.length) (e)), (12, .int .i64 ((xs.length : Nat))), (13, .int .i64 ((j : Int)))] ∧ FR w0 [] [] w) _ ⟨0, rfl, (Nat.zero_le _), (Nat.zero_le _), (by simp), ⟨rfl, rfl, rfl, rfl, rfl, rfl, trivial⟩, hF⟩ ?_
 clear hF; rintro μ σ w ⟨j, rfl, hj, hj2, hc, hs, hF⟩
 refine Cg.slots hs ?_
 clear hs; intro σ
 refine c_seq (c_region (o_val (v := .bool (decide (((j : Int) : Int) < ((xs.length : Nat) : Int)))) (x_lss rfl rfl) (o_nil (e_seq (c_seq ?_)))))
 refine c_splitd (d := 14) (p := ((j : Int) : Int) < ((xs.length : Nat) : Int)) rfl (fun hc0 => ?_) (fun hc0 => ?_)
 refine c_ift rfl (c_skip (e_seq (c_seq (c_block (c_seq (c_region (o_val (v := .int .i64 ((j : Int))) (x_move rfl) ?_)))))))
 obtain ⟨ad0, cs0, hA0, hl0, hk0, hx0⟩ := hX.tree_elem (i := j) (by omega)
 have ho0 := hx0.one_
 refine o_val (v := .pointer (some (ad0.add (j * 4)))) (x_indexAddrA (i := (j : Int)) sl_23 rfl hA0 rfl (by omega) (by omega)) (o_val (v := .agg (List.toArray cs0)) (x_loadS (l := cs0) Tryz.isAgg25 Tryz.sizeOf25 rfl hl0 (hF.cells0 hk0)) ?_)
 refine o_alloc (cs := #[.int .i64 (0), .string (bs ([])), .slice (none) (0) (0), .slice (none) (0) (0)]) hF Tryz.zeroValue25 rfl ?_
 clear hF; rintro b1 w hb1 hF -
 refine o_val (v := .int .i64 ((j : Int))) (x_assign rfl) ?_
 refine o_store 0 (l := cs0) (cs' := (List.toArray cs0)) hF (by rw [hl0]; exact Tryz.sizeOf25) rfl (v := .agg (List.toArray cs0)) rfl rfl (ho0) rfl (by rw [hl0]; exact Nat.le_of_ble_eq_true rfl) (putA_all (by rw [hl0]; rfl)) ?_
 clear hF; rintro w hF -
 replace hF : FR w0 [] [(b1, .cells (List.toArray cs0) 25)] w := hF
 refine o_nil (e_seq (c_seq (c_seq (c_region (o_val (v := .int .i64 ((j : Int))) (x_move rfl) (o_val (v := .slice (B') (ys.length) (e')) (x_move rfl) (o_val (v := .int .i64 ((ys.length : Nat))) (x_len_slice Tryz.underlying23 rfl) (o_val (v := .bool (decide (((ys.length : Nat) : Int) ≤ ((j : Int) : Int)))) (x_geq rfl rfl) (o_nil (e_seq ?_))))))))))
 refine c_splitd (d := 21) (p := ((ys.length : Nat) : Int) ≤ ((j : Int) : Int)) rfl (fun hc1 => ?_) (fun hc1 => ?_)
 refine c_ift rfl (c_seq (c_region (o_val (v := .int .i64 (1)) (x_assign rfl) (o_nil (e_seq ?_)))))
 refine c_ret (e_ret (post_ret (res_1 (v := .int .i64 (1)) rfl rfl) ?_))
 exact ⟨congrArg (Value.int .i64) (by rw [hc, cmpL_more (by omega) (by omega)]), hF.same⟩
 refine c_iff rfl (c_skip (e_seq (c_seq (c_region (o_val (v := .slice (B') (ys.length) (e')) (x_move rfl) (o_val (v := .int .i64 ((j : Int))) (x_move rfl) ?_))))))
 obtain ⟨ad1, cs1, hA1, hl1, hk1, hx1⟩ := hY.tree_elem (i := j) (by omega)
 have ho1 := hx1.one_
 refine o_val (v := .pointer (some (ad1.add (j * 4)))) (x_indexAddrA (i := (j : Int)) sl_23 rfl hA1 rfl (by omega) (by omega)) (o_val (v := .agg (List.toArray cs1)) (x_loadS (l := cs1) Tryz.isAgg25 Tryz.sizeOf25 rfl hl1 (hF.cells0 hk1)) ?_)
 refine o_lay (l := cs1) hF Tryz.zeroValue25 (by rw [hl1]; exact Tryz.sizeOf25) (by rw [hl1]; rfl) (v := .agg (List.toArray cs1)) rfl rfl (ho1) rfl ?_
 clear hF; rintro b2 w hb2 hF -
 refine o_nil (e_seq (c_seq (c_region (o_val (v := .func (.func 68) #[] #[]) (x_move rfl) (o_val (v := .agg (List.toArray cs0)) (x_loadS (l := cs0) Tryz.isAgg25 Tryz.sizeOf25 rfl hl0 (hF.cellsAll 1 rfl)) (o_val (v := .agg (List.toArray cs1)) (x_loadS (l := cs1) Tryz.isAgg25 Tryz.sizeOf25 rfl hl1 (hF.cellsAll 0 rfl)) ?_))))))
 refine o_call (hq _ (List.getElem_mem (l := xs) (n := j) (by omega)) _ (List.getElem_mem (l := ys) (n := j) (by omega)) _ _ _ _ _ hF.same (hF.rep hx0) (hF.rep hx1)) (x_callv2 rfl en_68 rfl rfl rfl) ?_
 rintro _ w ⟨rfl, hE⟩
 replace hF := hF.ext hE
 clear hE
 refine o_val (v := .int .i64 (q xs[j] ys[j])) (x_assign rfl) (o_nil (e_seq (c_seq (c_region (o_val (v := .int .i64 (q xs[j] ys[j])) (x_move rfl) (o_val (v := .bool (decide ((q xs[j] ys[j] : Int) ≠ (0 : Int)))) (x_neq rfl rfl) (o_nil (e_seq ?_))))))))
 refine c_splitd (d := 31) (p := (q xs[j] ys[j] : Int) ≠ (0 : Int)) rfl (fun hc2 => ?_) (fun hc2 => ?_)
 refine c_ift rfl (c_seq (c_region (o_val (v := .int .i64 (q xs[j] ys[j])) (x_move rfl) (o_val (v := .int .i64 (q xs[j] ys[j])) (x_assign rfl) (o_nil (e_seq ?_))))))
 refine c_ret (e_ret (post_ret (res_1 (v := .int .i64 (q xs[j] ys[j])) rfl rfl) ?_))
 exact ⟨congrArg (Value.int .i64) (by rw [hc, cmpL_at (by omega) (by omega) (by simpa using hc2)]), hF.same⟩
 refine c_iff rfl (c_skip (e_block (e_seq (c_region (o_val (v := .int .i64 (((j : Int) : Int) + 1)) (x_add rfl rfl (wrap_id (by omega) (by omega))) (o_val (v := .int .i64 (((j : Int) : Int) + 1)) (x_move rfl) (o_nil ?_)))))))
 refine e_inv ⟨_, ?_, j + 1, rfl, (by omega), (by omega), (hc.trans (cmpL_step (by omega) (by omega) (by simpa using hc2))), ⟨rfl, rfl, rfl, rfl, rfl, rfl, trivial⟩, hF.drop 2⟩
 omega
 refine c_iff rfl ?_
 refine c_exit (e_exit rfl ?_)
 refine e_seq (c_seq (c_seq (c_region (o_val (v := .slice (B) (xs.length) (e)) (x_move rfl) (o_val (v := .int .i64 ((xs.length : Nat))) (x_len_slice Tryz.underlying23 rfl) (o_val (v := .slice (B') (ys.length) (e')) (x_move rfl) (o_val (v := .int .i64 ((ys.length : Nat))) (x_len_slice Tryz.underlying23 rfl) (o_val (v := .bool (decide (((xs.length : Nat) : Int) < ((ys.length : Nat) : Int)))) (x_lss rfl rfl) (o_nil (e_seq ?_))))))))))
 refine c_splitd (d := 38) (p := ((xs.length : Nat) : Int) < ((ys.length : Nat) : Int)) rfl (fun hc3 => ?_) (fun hc3 => ?_)
 refine c_ift rfl (c_seq (c_region (o_val (v := .int .i64 ((-1))) (x_assign rfl) (o_nil (e_seq ?_)))))
 refine c_ret (e_ret (post_ret (res_1 (v := .int .i64 ((-1))) rfl rfl) ?_))
 exact ⟨congrArg (Value.int .i64) (by rw [hc, cmpL_less (by omega) (by omega)]), hF.same⟩
 refine c_iff rfl (c_skip (e_seq (c_seq (c_region (o_val (v := .int .i64 (0)) (x_assign rfl) (o_nil (e_seq ?_)))))))
 refine c_ret (e_ret (post_ret (res_1 (v := .int .i64 (0)) rfl rfl) ?_))
 exact ⟨congrArg (Value.int .i64) (by rw [hc, cmpL_end (by omega) (by omega)]), hF.same⟩
set_option maxHeartbeats 1000000 in
set_option maxRecDepth 10000 in
theorem compareStrs_c (xs ys : List Str) (A A' : Option Addr) (c c' : Nat) (S S' : Nat → Prop) (w0 : World) (hX : Rep S w0 (strsD xs) [.slice A xs.length c]) (hY : Rep S' w0 (strsD ys) [.slice A' ys.length c']) : Calls Tryz.prog 133 #[.slice A xs.length c, .slice A' ys.length c', .func (.func 101) #[] #[]] w0 (Ret fun v w' => v = .int .i64 (cmpL Lib.compareBytes xs ys) ∧ Same [] w0 w') := by
 have hXl := hX.slice_len
 have hYl := hY.slice_len
 refine calls_start Tryz.func133 rfl Tryz.ntmps133 (Nat.le_of_ble_eq_true rfl) (args_3 _ _ _) ?_
 have hF := FR.start w0 []
 refine c_seq (c_region (o_val (v := .int .i64 (0)) (x_assign rfl) (o_nil (e_seq (c_seq (c_seq (c_region (o_val (v := .slice (A) (xs.length) (c)) (x_move rfl) (o_val (v := .int .i64 ((xs.length : Nat))) (x_len_slice Tryz.underlying22 rfl) (o_val (v := .int .i64 (0)) (x_move rfl) (o_nil (e_seq (c_block ?_)))))))))))))
 refine c_loop (fun μ σ w => ∃ (j : Nat), μ = xs.length - j ∧ (j ≤ xs.length) ∧ (j ≤ ys.length) ∧ (cmpL Lib.compareBytes xs ys = cmpL Lib.compareBytes (xs.drop j) (ys.drop j)) ∧ AllEq σ [(0, .slice (A) (xs.length) (c)), (1, .slice (A') (ys.length) (c')), (2, .func (.func 101) #[] #[]), (11, .slice (A) (xs.length) (c)), (12, .int .i64 ((xs.length : Nat))), (13, .int .i64 ((j : Int)))] ∧ FR w0 [] [] w) _ ⟨0, rfl, (Nat.zero_le _), (Nat.zero_le _), (by simp), ⟨rfl, rfl, rfl, rfl, rfl, rfl, trivial⟩, hF⟩ ?_
 clear hF; rintro μ σ w ⟨j, rfl, hj, hj2, hc, hs, hF⟩
 refine Cg.slots hs ?_
 clear hs; intro σ
 refine c_seq (c_region (o_val (v := .bool (decide (((j : Int) : Int) < ((xs.length : Nat) : Int)))) (x_lss rfl rfl) (o_nil (e_seq (c_seq ?_)))))
 refine c_splitd (d := 14) (p := ((j : Int) : Int) < ((xs.length : Nat) : Int)) rfl (fun hc0 => ?_) (fun hc0 => ?_)
 refine c_ift rfl (c_skip (e_seq (c_seq (c_block (c_seq (c_region (o_val (v := .int .i64 ((j : Int))) (x_move rfl) ?_)))))))
 obtain ⟨ad0, hA0, hk0, hx0⟩ := hX.str_elem (i := j) (by omega)
 refine o_val (v := .pointer (some (ad0.add (j * 1)))) (x_indexAddrA (i := (j : Int)) sl_22 rfl hA0 rfl (by omega) (by omega)) (o_val (v := .string (bs (xs[j]))) (x_load Tryz.isAgg9 rfl (hF.cell0 hk0)) (o_val (v := .int .i64 ((j : Int))) (x_assign rfl) (o_val (v := .string (bs (xs[j]))) (x_assign rfl) (o_nil (e_seq (c_seq (c_seq (c_region (o_val (v := .int .i64 ((j : Int))) (x_move rfl) (o_val (v := .slice (A') (ys.length) (c')) (x_move rfl) (o_val (v := .int .i64 ((ys.length : Nat))) (x_len_slice Tryz.underlying22 rfl) (o_val (v := .bool (decide (((ys.length : Nat) : Int) ≤ ((j : Int) : Int)))) (x_geq rfl rfl) (o_nil ?_)))))))))))))
 refine e_seq ?_
 refine c_splitd (d := 21) (p := ((ys.length : Nat) : Int) ≤ ((j : Int) : Int)) rfl (fun hc1 => ?_) (fun hc1 => ?_)
 refine c_ift rfl (c_seq (c_region (o_val (v := .int .i64 (1)) (x_assign rfl) (o_nil (e_seq ?_)))))
 refine c_ret (e_ret (post_ret (res_1 (v := .int .i64 (1)) rfl rfl) ?_))
 exact ⟨congrArg (Value.int .i64) (by rw [hc, cmpL_more (by omega) (by omega)]), hF.same⟩
 refine c_iff rfl (c_skip (e_seq (c_seq (c_region (o_val (v := .slice (A') (ys.length) (c')) (x_move rfl) (o_val (v := .int .i64 ((j : Int))) (x_move rfl) ?_))))))
 obtain ⟨ad1, hA1, hk1, hx1⟩ := hY.str_elem (i := j) (by omega)
 refine o_val (v := .pointer (some (ad1.add (j * 1)))) (x_indexAddrA (i := (j : Int)) sl_22 rfl hA1 rfl (by omega) (by omega)) (o_val (v := .string (bs (ys[j]))) (x_load Tryz.isAgg9 rfl (hF.cell0 hk1)) (o_val (v := .string (bs (ys[j]))) (x_assign rfl) (o_nil (e_seq (c_seq (c_region (o_val (v := .func (.func 101) #[] #[]) (x_move rfl) (o_val (v := .string (bs (xs[j]))) (x_move rfl) (o_val (v := .string (bs (ys[j]))) (x_move rfl) ?_)))))))))
 refine o_call (compareS_c xs[j] ys[j] _) (x_callv2 rfl en_101 rfl rfl rfl) ?_
 rintro _ w ⟨rfl, hE⟩
 replace hF := hF.ext hE
 clear hE
 refine o_val (v := .int .i64 (Lib.compareBytes xs[j] ys[j])) (x_assign rfl) (o_nil (e_seq (c_seq (c_region (o_val (v := .int .i64 (Lib.compareBytes xs[j] ys[j])) (x_move rfl) (o_val (v := .bool (decide ((Lib.compareBytes xs[j] ys[j] : Int) ≠ (0 : Int)))) (x_neq rfl rfl) (o_nil (e_seq ?_))))))))
 refine c_splitd (d := 31) (p := (Lib.compareBytes xs[j] ys[j] : Int) ≠ (0 : Int)) rfl (fun hc2 => ?_) (fun hc2 => ?_)
 refine c_ift rfl (c_seq (c_region (o_val (v := .int .i64 (Lib.compareBytes xs[j] ys[j])) (x_move rfl) (o_val (v := .int .i64 (Lib.compareBytes xs[j] ys[j])) (x_assign rfl) (o_nil (e_seq ?_))))))
 refine c_ret (e_ret (post_ret (res_1 (v := .int .i64 (Lib.compareBytes xs[j] ys[j])) rfl rfl) ?_))
 exact ⟨congrArg (Value.int .i64) (by rw [hc, cmpL_at (by omega) (by omega) (by simpa using hc2)]), hF.same⟩
 refine c_iff rfl (c_skip (e_block (e_seq (c_region (o_val (v := .int .i64 (((j : Int) : Int) + 1)) (x_add rfl rfl (wrap_id (by omega) (by omega))) (o_val (v := .int .i64 (((j : Int) : Int) + 1)) (x_move rfl) (o_nil ?_)))))))
 refine e_inv ⟨_, ?_, j + 1, rfl, (by omega), (by omega), (hc.trans (cmpL_step (by omega) (by omega) (by simpa using hc2))), ⟨rfl, rfl, rfl, rfl, rfl, rfl, trivial⟩, hF⟩
 omega
 refine c_iff rfl ?_
 refine c_exit (e_exit rfl ?_)
 refine e_seq (c_seq (c_seq (c_region (o_val (v := .slice (A) (xs.length) (c)) (x_move rfl) (o_val (v := .int .i64 ((xs.length : Nat))) (x_len_slice Tryz.underlying22 rfl) (o_val (v := .slice (A') (ys.length) (c')) (x_move rfl) (o_val (v := .int .i64 ((ys.length : Nat))) (x_len_slice Tryz.underlying22 rfl) (o_val (v := .bool (decide (((xs.length : Nat) : Int) < ((ys.length : Nat) : Int)))) (x_lss rfl rfl) (o_nil (e_seq ?_))))))))))
 refine c_splitd (d := 38) (p := ((xs.length : Nat) : Int) < ((ys.length : Nat) : Int)) rfl (fun hc3 => ?_) (fun hc3 => ?_)
 refine c_ift rfl (c_seq (c_region (o_val (v := .int .i64 ((-1))) (x_assign rfl) (o_nil (e_seq ?_)))))
 refine c_ret (e_ret (post_ret (res_1 (v := .int .i64 ((-1))) rfl rfl) ?_))
 exact ⟨congrArg (Value.int .i64) (by rw [hc, cmpL_less (by omega) (by omega)]), hF.same⟩
 refine c_iff rfl (c_skip (e_seq (c_seq (c_region (o_val (v := .int .i64 (0)) (x_assign rfl) (o_nil (e_seq ?_)))))))
 refine c_ret (e_ret (post_ret (res_1 (v := .int .i64 (0)) rfl rfl) ?_))
 exact ⟨congrArg (Value.int .i64) (by rw [hc, cmpL_end (by omega) (by omega)]), hF.same⟩
set_option maxHeartbeats 1000000 in
set_option maxRecDepth 10000 in
theorem rowsS_c (xs ys : List Str) (A A' : Option Addr) (c c' : Nat) (S S' : Nat → Prop) (w0 : World) (hX : Rep S w0 (strsD xs) [.slice A xs.length c]) (hY : Rep S' w0 (strsD ys) [.slice A' ys.length c']) : Calls Tryz.prog 102 #[.slice A xs.length c, .slice A' ys.length c', .func (.func 101) #[] #[]] w0 (Ret fun v w' => v = .int .i64 (cmpL Lib.compareBytes xs ys) ∧ Same [] w0 w') := by
 refine calls_start Tryz.func102 rfl Tryz.ntmps102 (Nat.le_of_ble_eq_true rfl) (args_3 _ _ _) ?_
 have hF := FR.start w0 []
 refine c_seq (c_region (o_val (v := .int .i64 (0)) (x_assign rfl) (o_nil (e_seq (c_seq (c_region (o_val (v := .slice (A) (xs.length) (c)) (x_move rfl) (o_val (v := .slice (A') (ys.length) (c')) (x_move rfl) (o_val (v := .func (.func 101) #[] #[]) (x_move rfl) ?_)))))))))
 refine o_call (compareStrs_c xs ys A A' c c' S S' _ (hF.rep hX) (hF.rep hY)) (x_call3 en_133 rfl rfl rfl rfl) ?_
 rintro _ w ⟨rfl, hE⟩
 replace hF := hF.ext hE
 clear hE
 refine o_val (v := .int .i64 (cmpL Lib.compareBytes xs ys)) (x_assign rfl) (o_nil (e_seq ?_))
 refine c_ret (e_ret (post_ret (res_1 (v := .int .i64 (cmpL Lib.compareBytes xs ys)) rfl rfl) ?_))
 exact ⟨rfl, hF.same⟩
set_option maxHeartbeats 1000000 in
set_option maxRecDepth 10000 in
theorem rowsT_c (q : Tree → Tree → Int) (xs ys : List Tree) (B B' : Option Addr) (e e' : Nat) (S S' : Nat → Prop) (w0 : World) (hX : Rep S w0 (.slice (treesD xs)) [.slice B xs.length e]) (hY : Rep S' w0 (.slice (treesD ys)) [.slice B' ys.length e']) (hq : BothI w0 68 xs ys q) : Calls Tryz.prog 103 #[.slice B xs.length e, .slice B' ys.length e', .func (.func 68) #[] #[]] w0 (Ret fun v w' => v = .int .i64 (cmpL q xs ys) ∧ Same [] w0 w') := by
 refine calls_start Tryz.func103 rfl Tryz.ntmps103 (Nat.le_of_ble_eq_true rfl) (args_3 _ _ _) ?_
 have hF := FR.start w0 []
 refine c_seq (c_region (o_val (v := .int .i64 (0)) (x_assign rfl) (o_nil (e_seq (c_seq (c_region (o_val (v := .slice (B) (xs.length) (e)) (x_move rfl) (o_val (v := .slice (B') (ys.length) (e')) (x_move rfl) (o_val (v := .func (.func 68) #[] #[]) (x_move rfl) ?_)))))))))
 refine o_call (compareTrees_c q xs ys B B' e e' S S' _ (hF.rep hX) (hF.rep hY) (hq.ext hF.same)) (x_call3 en_134 rfl rfl rfl rfl) ?_
 rintro _ w ⟨rfl, hE⟩
 replace hF := hF.ext hE
 clear hE
 refine o_val (v := .int .i64 (cmpL q xs ys)) (x_assign rfl) (o_nil (e_seq ?_))
 refine c_ret (e_ret (post_ret (res_1 (v := .int .i64 (cmpL q xs ys)) rfl rfl) ?_))
 exact ⟨rfl, hF.same⟩
end Go.Scarf
namespace Go.Scarf
open Go.RowKit Go.Proofs
mutual
def orderT : Tree → Tree → Int
  | .node k t ks xs, .node k' t' ks' ys => if k = 3 ∧ k' = 3 then cmpN (parseN t).1 (parseN t').1 else
    if orL [Lib.compareInt k k', Lib.compareBytes t t', cmpL Lib.compareBytes ks ks'] ≠ 0 then orL [Lib.compareInt k k', Lib.compareBytes t t', cmpL Lib.compareBytes ks ks'] else orderL xs ys
def orderL : List Tree → List Tree → Int
  | [], [] => 0
  | [], _ :: _ => -1
  | _ :: _, [] => 1
  | x :: xs, y :: ys => if orderT x y ≠ 0 then orderT x y else orderL xs ys
end
theorem orderL_eq : ∀ xs ys : List Tree, cmpL orderT xs ys = orderL xs ys
  | [], [] => by rw [cmpL, orderL]
  | [], _ :: _ => by rw [cmpL, orderL]
  | _ :: _, [] => by rw [cmpL, orderL]
  | x :: xs, y :: ys => by rw [cmpL, orderL, orderL_eq xs ys]
def OrderC (x : Tree) : Prop := ∀ y S S' w0 cs ct, Rep S w0 (treeD x) cs → Rep S' w0 (treeD y) ct → okT x → okT y → Gl w0 → Calls Tryz.prog 68 #[.agg cs.toArray, .agg ct.toArray] w0 (Ret fun v w' => v = .int .i64 (orderT x y) ∧ Same [] w0 w')
set_option maxHeartbeats 4000000 in
set_option maxRecDepth 10000 in
theorem order_step (k : Int) (t : Str) (ks : List Str) (xs : List Tree) (ih : ∀ x, x ∈ xs → OrderC x) : OrderC (.node k t ks xs) := by
 rintro ⟨k', t', ks', ys⟩ S S' w0 cs ct hR hR' hk hk' hG
 rw [okT] at hk
 rw [okT] at hk'
 obtain ⟨A, c, B, e, rfl, -, -, hK, hX⟩ := hR.tree_inv
 obtain ⟨A', c', B', e', rfl, -, -, hK', hY⟩ := hR'.tree_inv
 refine calls_start Tryz.func68 rfl Tryz.ntmps68 (Nat.le_of_ble_eq_true rfl) (args_2 _ _) ?_
 have hF := FR.start w0 []
 refine c_seq (c_region ?_)
 refine o_box (v := .agg #[.int .i64 (k), .string (bs (t)), .slice (A) (ks.length) (c), .slice (B) (xs.length) (e)]) (cs := #[.int .i64 (k), .string (bs (t)), .slice (A) (ks.length) (c), .slice (B) (xs.length) (e)]) hF rfl rfl ?_
 clear hF; rintro b1 w hb1 hF -
 refine o_box (v := .agg #[.int .i64 (k'), .string (bs (t')), .slice (A') (ks'.length) (c'), .slice (B') (ys.length) (e')]) (cs := #[.int .i64 (k'), .string (bs (t')), .slice (A') (ks'.length) (c'), .slice (B') (ys.length) (e')]) hF rfl rfl ?_
 clear hF; rintro b2 w hb2 hF -
 refine o_val (v := .int .i64 (0)) (x_assign rfl) (o_nil (e_seq (c_seq (c_seq (c_region (o_val (v := .pointer (some ⟨b1, 0, none⟩)) (x_fieldAddrO fa_25_0 rfl) (o_val (v := .int .i64 (k)) (x_load Tryz.isAgg3 rfl (hF.cell 1 rfl rfl)) (o_val (v := .bool (decide ((k : Int) = (3 : Int)))) (x_eql rfl rfl) (o_val (v := .bool (decide ((k : Int) = (3 : Int)))) (x_move rfl) ?_)))))))))
 refine o_splitd (d := 13) (p := (k : Int) = (3 : Int)) rfl (fun hg0 => ?_) (fun hg0 => ?_)
 refine o_val (v := .pointer (some ⟨b2, 0, none⟩)) (x_fieldAddrO fa_25_0 rfl) (o_val (v := .int .i64 (k')) (x_load Tryz.isAgg3 rfl (hF.cell 0 rfl rfl)) (o_val (v := .bool (decide ((k' : Int) = (3 : Int)))) (x_eql rfl rfl) (o_val (v := .bool (decide ((k' : Int) = (3 : Int)))) (x_pickt rfl rfl) (o_nil (e_seq ?_)))))
 refine c_splitd (d := 17) (p := (k' : Int) = (3 : Int)) rfl (fun hc0 => ?_) (fun hc0 => ?_)
 refine c_ift rfl (c_seq (c_region (o_val (v := .pointer (some ⟨b1, 1, none⟩)) (x_fieldAddrO fa_25_1 rfl) (o_val (v := .string (bs (t))) (x_load Tryz.isAgg9 rfl (hF.cell 1 rfl rfl)) ?_))))
 refine o_call (decimal_c t hk.1 _ (hG.ext hF.same)) (x_call1 en_87 rfl rfl) ?_
 rintro _ w ⟨rfl, hE⟩
 replace hF := hF.ext hE
 clear hE
 refine o_val (v := .tuple #[.agg #[.bool ((parseN t).1.neg), .string (bs ((parseN t).1.digits)), .int .i64 ((parseN t).1.exp)], .bool (decimalB t)]) (x_move rfl) (o_val (v := .agg #[.bool ((parseN t).1.neg), .string (bs ((parseN t).1.digits)), .int .i64 ((parseN t).1.exp)]) (x_extract rfl rfl) (o_val (v := .bool (decimalB t)) (x_extract rfl rfl) ?_))
 refine o_lay (l := [.bool ((parseN t).1.neg), .string (bs ((parseN t).1.digits)), .int .i64 ((parseN t).1.exp)]) hF Tryz.zeroValue65 Tryz.sizeOf65 rfl (v := .agg #[.bool ((parseN t).1.neg), .string (bs ((parseN t).1.digits)), .int .i64 ((parseN t).1.exp)]) rfl rfl (by simp [one]) rfl ?_
 clear hF; rintro b3 w hb3 hF -
 refine o_val (v := .bool (decimalB t)) (x_assign rfl) (o_nil (e_seq (c_seq (c_region (o_val (v := .pointer (some ⟨b2, 1, none⟩)) (x_fieldAddrO fa_25_1 rfl) (o_val (v := .string (bs (t'))) (x_load Tryz.isAgg9 rfl (hF.cell 1 rfl rfl)) ?_))))))
 refine o_call (decimal_c t' hk'.1 _ (hG.ext hF.same)) (x_call1 en_87 rfl rfl) ?_
 rintro _ w ⟨rfl, hE⟩
 replace hF := hF.ext hE
 clear hE
 refine o_val (v := .tuple #[.agg #[.bool ((parseN t').1.neg), .string (bs ((parseN t').1.digits)), .int .i64 ((parseN t').1.exp)], .bool (decimalB t')]) (x_move rfl) (o_val (v := .agg #[.bool ((parseN t').1.neg), .string (bs ((parseN t').1.digits)), .int .i64 ((parseN t').1.exp)]) (x_extract rfl rfl) (o_val (v := .bool (decimalB t')) (x_extract rfl rfl) ?_))
 refine o_lay (l := [.bool ((parseN t').1.neg), .string (bs ((parseN t').1.digits)), .int .i64 ((parseN t').1.exp)]) hF Tryz.zeroValue65 Tryz.sizeOf65 rfl (v := .agg #[.bool ((parseN t').1.neg), .string (bs ((parseN t').1.digits)), .int .i64 ((parseN t').1.exp)]) rfl rfl (by simp [one]) rfl ?_
 clear hF; rintro b4 w hb4 hF -
 refine o_val (v := .bool (decimalB t')) (x_assign rfl) (o_nil (e_seq (c_seq (c_region (o_val (v := .agg #[.bool ((parseN t).1.neg), .string (bs ((parseN t).1.digits)), .int .i64 ((parseN t).1.exp)]) (x_loadS (l := [.bool ((parseN t).1.neg), .string (bs ((parseN t).1.digits)), .int .i64 ((parseN t).1.exp)]) Tryz.isAgg65 Tryz.sizeOf65 rfl rfl (hF.cellsAll 1 rfl)) (o_val (v := .agg #[.bool ((parseN t').1.neg), .string (bs ((parseN t').1.digits)), .int .i64 ((parseN t').1.exp)]) (x_loadS (l := [.bool ((parseN t').1.neg), .string (bs ((parseN t').1.digits)), .int .i64 ((parseN t').1.exp)]) Tryz.isAgg65 Tryz.sizeOf65 rfl rfl (hF.cellsAll 0 rfl)) ?_))))))
 refine o_call (numCompare_c (parseN t).1 (parseN t').1 (by have := parseN_len t; omega) (by have := parseN_len t'; omega) _) (x_call2 en_98 rfl rfl rfl) ?_
 rintro _ w ⟨rfl, hE⟩
 replace hF := hF.ext hE
 clear hE
 refine o_val (v := .int .i64 (cmpN (parseN t).1 (parseN t').1)) (x_assign rfl) (o_nil (e_seq ?_))
 refine c_ret (e_ret (post_ret (res_1 (v := .int .i64 (cmpN (parseN t).1 (parseN t').1)) rfl rfl) ?_))
 refine ⟨congrArg (Value.int .i64) ?_, hF.same⟩
 rw [orderT]
 clear hF hR hR' hX hY hK hK' ih hk hk'
 · first | (simp_all [orderL_eq]; done) | (simp_all [orderL_eq]; omega)
 refine c_iff rfl (c_skip (e_seq (c_seq ?_)))
 refine c_drawF [] (.free 0 (.free 1 (.free 2 (.free 3 (.free 5 (.free 6 (.free 7 (.free 8 (.free 10 (.free 11 (.free 12 (.free 13 (.act 4 (.act 9 (.act 14 (.act 15 (.act 16 (.free 17 .nil)))))))))))))))))) (by kernel_rfl) hF (by kernel_rfl) (by kernel_rfl) ?_
 clear hF; rintro w hF -
 refine ⟨fun wq => FR w0 [] [(b2, .cells #[.int .i64 (k'), .string (bs (t')), .slice (A') (ks'.length) (c'), .slice (B') (ys.length) (e')] 25), (b1, .cells #[.int .i64 (k), .string (bs (t)), .slice (A) (ks.length) (c), .slice (B) (xs.length) (e)] 25)] wq, hF, ?_⟩
 refine f_free rfl (v := .pointer (some ⟨b1, 0, none⟩)) (fun w hC => x_fieldAddrO fa_25_0 rfl) (f_free rfl (v := .int .i64 (k)) (fun w hC => x_load Tryz.isAgg3 rfl (hC.cell 1 rfl rfl)) (f_free rfl (v := .pointer (some ⟨b2, 0, none⟩)) (fun w hC => x_fieldAddrO fa_25_0 rfl) (f_free rfl (v := .int .i64 (k')) (fun w hC => x_load Tryz.isAgg3 rfl (hC.cell 0 rfl rfl)) (f_free rfl (v := .pointer (some ⟨b1, 1, none⟩)) (fun w hC => x_fieldAddrO fa_25_1 rfl) (f_free rfl (v := .string (bs (t))) (fun w hC => x_load Tryz.isAgg9 rfl (hC.cell 1 rfl rfl)) (f_free rfl (v := .pointer (some ⟨b2, 1, none⟩)) (fun w hC => x_fieldAddrO fa_25_1 rfl) (f_free rfl (v := .string (bs (t'))) (fun w hC => x_load Tryz.isAgg9 rfl (hC.cell 0 rfl rfl)) (f_free rfl (v := .pointer (some ⟨b1, 2, none⟩)) (fun w hC => x_fieldAddrO fa_25_2 rfl) (f_free rfl (v := .slice (A) (ks.length) (c)) (fun w hC => x_load Tryz.isAgg22 rfl (hC.cell 1 rfl rfl)) (f_free rfl (v := .pointer (some ⟨b2, 2, none⟩)) (fun w hC => x_fieldAddrO fa_25_2 rfl) (f_free rfl (v := .slice (A') (ks'.length) (c')) (fun w hC => x_load Tryz.isAgg22 rfl (hC.cell 0 rfl rfl)) ?_)))))))))))
 refine f_call rfl (cmpInt_c k k' _) (x_call2 en_100 rfl rfl rfl) ?_
 rintro _ w ⟨rfl, hE⟩
 replace hF := hF.ext hE
 clear hE
 refine ⟨hF, ?_⟩
 refine f_call rfl (compareS_c t t' _) (x_call2 en_101 rfl rfl rfl) ?_
 rintro _ w ⟨rfl, hE⟩
 replace hF := hF.ext hE
 clear hE
 refine ⟨hF, ?_⟩
 refine f_call rfl (rowsS_c ks ks' A A' c c' S S' _ (hF.rep hK) (hF.rep hK')) (x_call3 en_102 rfl rfl rfl rfl) ?_
 rintro _ w ⟨rfl, hE⟩
 replace hF := hF.ext hE
 clear hE
 refine ⟨hF, ?_⟩
 refine f_new rfl (v := fun b => .slice (some ⟨b, 0, none⟩) 3 3) hF (x_buildSlice (cs := #[.int .i64 (Lib.compareInt k k'), .int .i64 (Lib.compareBytes t t'), .int .i64 (cmpL Lib.compareBytes ks ks')]) Tryz.underlying116 Tryz.sizeOf3 Tryz.zeroValue3 (by decide) (by decide) (by kernel_rfl)) ?_
 clear hF; rintro b5 w hb5 hF -
 refine ⟨hF.sub (.cons _ (.cons_cons _ (.cons_cons _ .slnil))), ?_⟩
 refine f_call rfl (or_c [Lib.compareInt k k', Lib.compareBytes t t', cmpL Lib.compareBytes ks ks'] _ 3 (by simp) _ (or3_cells (hF.cellsAll 0 rfl))) (x_call1 en_99 rfl rfl) ?_
 rintro _ w ⟨rfl, hE⟩
 replace hF := hF.ext hE
 clear hE
 refine ⟨hF.sub (.cons _ (.cons_cons _ (.cons_cons _ .slnil))), ?_⟩
 refine f_free rfl (v := .int .i64 (orL [Lib.compareInt k k', Lib.compareBytes t t', cmpL Lib.compareBytes ks ks'])) (fun w hC => x_assign rfl) (d_nil (e_seq (c_seq (c_seq (c_region (o_val (v := .int .i64 (orL [Lib.compareInt k k', Lib.compareBytes t t', cmpL Lib.compareBytes ks ks'])) (x_move rfl) (o_val (v := .bool (decide ((orL [Lib.compareInt k k', Lib.compareBytes t t', cmpL Lib.compareBytes ks ks'] : Int) ≠ (0 : Int)))) (x_neq rfl rfl) (o_nil (e_seq ?_)))))))))
 refine c_splitd (d := 51) (p := (orL [Lib.compareInt k k', Lib.compareBytes t t', cmpL Lib.compareBytes ks ks'] : Int) ≠ (0 : Int)) rfl (fun hc1 => ?_) (fun hc1 => ?_)
 refine c_ift rfl (c_seq (c_region (o_val (v := .int .i64 (orL [Lib.compareInt k k', Lib.compareBytes t t', cmpL Lib.compareBytes ks ks'])) (x_move rfl) (o_val (v := .int .i64 (orL [Lib.compareInt k k', Lib.compareBytes t t', cmpL Lib.compareBytes ks ks'])) (x_assign rfl) (o_nil (e_seq ?_))))))
 refine c_ret (e_ret (post_ret (res_1 (v := .int .i64 (orL [Lib.compareInt k k', Lib.compareBytes t t', cmpL Lib.compareBytes ks ks'])) rfl rfl) ?_))
 refine ⟨congrArg (Value.int .i64) ?_, hF.same⟩
 rw [orderT]
 clear hF hR hR' hX hY hK hK' ih hk hk'
 · first | (simp_all [orderL_eq]; done) | (simp_all [orderL_eq]; omega)
 refine c_iff rfl (c_skip (e_seq (c_seq (c_region (o_val (v := .pointer (some ⟨b1, 3, none⟩)) (x_fieldAddrO fa_25_3 rfl) (o_val (v := .slice (B) (xs.length) (e)) (x_load Tryz.isAgg23 rfl (hF.cell 2 rfl rfl)) (o_val (v := .pointer (some ⟨b2, 3, none⟩)) (x_fieldAddrO fa_25_3 rfl) (o_val (v := .slice (B') (ys.length) (e')) (x_load Tryz.isAgg23 rfl (hF.cell 1 rfl rfl)) ?_))))))))
 refine o_call (rowsT_c orderT xs ys B B' e e' S S' _ (hF.rep hX) (hF.rep hY) (fun x hx y hy S1 S2 w1 cs1 ct1 hs h1 h2 => ih x hx y S1 S2 w1 cs1 ct1 h1 h2 (okTs_mem hk.2.2 x hx) (okTs_mem hk'.2.2 y hy) ((hG.ext hF.same).ext hs))) (x_call3 en_103 rfl rfl rfl rfl) ?_
 rintro _ w ⟨rfl, hE⟩
 replace hF := hF.ext hE
 clear hE
 refine o_val (v := .int .i64 (cmpL orderT xs ys)) (x_assign rfl) (o_nil (e_seq ?_))
 refine c_ret (e_ret (post_ret (res_1 (v := .int .i64 (cmpL orderT xs ys)) rfl rfl) ?_))
 refine ⟨congrArg (Value.int .i64) ?_, hF.same⟩
 rw [orderT]
 clear hF hR hR' hX hY hK hK' ih hk hk'
 · first | (simp_all [orderL_eq]; done) | (simp_all [orderL_eq]; omega)
 refine o_off (o_off (o_off (o_val (v := .bool false) (x_pickf rfl rfl) (o_nil (e_seq (c_iff rfl (c_skip (e_seq (c_seq ?_)))))))))
 refine c_drawF [] (.free 0 (.free 1 (.free 2 (.free 3 (.free 5 (.free 6 (.free 7 (.free 8 (.free 10 (.free 11 (.free 12 (.free 13 (.act 4 (.act 9 (.act 14 (.act 15 (.act 16 (.free 17 .nil)))))))))))))))))) (by kernel_rfl) hF (by kernel_rfl) (by kernel_rfl) ?_
 clear hF; rintro w hF -
 refine ⟨fun wq => FR w0 [] [(b2, .cells #[.int .i64 (k'), .string (bs (t')), .slice (A') (ks'.length) (c'), .slice (B') (ys.length) (e')] 25), (b1, .cells #[.int .i64 (k), .string (bs (t)), .slice (A) (ks.length) (c), .slice (B) (xs.length) (e)] 25)] wq, hF, ?_⟩
 refine f_free rfl (v := .pointer (some ⟨b1, 0, none⟩)) (fun w hC => x_fieldAddrO fa_25_0 rfl) (f_free rfl (v := .int .i64 (k)) (fun w hC => x_load Tryz.isAgg3 rfl (hC.cell 1 rfl rfl)) (f_free rfl (v := .pointer (some ⟨b2, 0, none⟩)) (fun w hC => x_fieldAddrO fa_25_0 rfl) (f_free rfl (v := .int .i64 (k')) (fun w hC => x_load Tryz.isAgg3 rfl (hC.cell 0 rfl rfl)) (f_free rfl (v := .pointer (some ⟨b1, 1, none⟩)) (fun w hC => x_fieldAddrO fa_25_1 rfl) (f_free rfl (v := .string (bs (t))) (fun w hC => x_load Tryz.isAgg9 rfl (hC.cell 1 rfl rfl)) (f_free rfl (v := .pointer (some ⟨b2, 1, none⟩)) (fun w hC => x_fieldAddrO fa_25_1 rfl) (f_free rfl (v := .string (bs (t'))) (fun w hC => x_load Tryz.isAgg9 rfl (hC.cell 0 rfl rfl)) (f_free rfl (v := .pointer (some ⟨b1, 2, none⟩)) (fun w hC => x_fieldAddrO fa_25_2 rfl) (f_free rfl (v := .slice (A) (ks.length) (c)) (fun w hC => x_load Tryz.isAgg22 rfl (hC.cell 1 rfl rfl)) (f_free rfl (v := .pointer (some ⟨b2, 2, none⟩)) (fun w hC => x_fieldAddrO fa_25_2 rfl) (f_free rfl (v := .slice (A') (ks'.length) (c')) (fun w hC => x_load Tryz.isAgg22 rfl (hC.cell 0 rfl rfl)) ?_)))))))))))
 refine f_call rfl (cmpInt_c k k' _) (x_call2 en_100 rfl rfl rfl) ?_
 rintro _ w ⟨rfl, hE⟩
 replace hF := hF.ext hE
 clear hE
 refine ⟨hF, ?_⟩
 refine f_call rfl (compareS_c t t' _) (x_call2 en_101 rfl rfl rfl) ?_
 rintro _ w ⟨rfl, hE⟩
 replace hF := hF.ext hE
 clear hE
 refine ⟨hF, ?_⟩
 refine f_call rfl (rowsS_c ks ks' A A' c c' S S' _ (hF.rep hK) (hF.rep hK')) (x_call3 en_102 rfl rfl rfl rfl) ?_
 rintro _ w ⟨rfl, hE⟩
 replace hF := hF.ext hE
 clear hE
 refine ⟨hF, ?_⟩
 refine f_new rfl (v := fun b => .slice (some ⟨b, 0, none⟩) 3 3) hF (x_buildSlice (cs := #[.int .i64 (Lib.compareInt k k'), .int .i64 (Lib.compareBytes t t'), .int .i64 (cmpL Lib.compareBytes ks ks')]) Tryz.underlying116 Tryz.sizeOf3 Tryz.zeroValue3 (by decide) (by decide) (by kernel_rfl)) ?_
 clear hF; rintro b6 w hb6 hF -
 refine ⟨hF.sub (.cons _ (.cons_cons _ (.cons_cons _ .slnil))), ?_⟩
 refine f_call rfl (or_c [Lib.compareInt k k', Lib.compareBytes t t', cmpL Lib.compareBytes ks ks'] _ 3 (by simp) _ (or3_cells (hF.cellsAll 0 rfl))) (x_call1 en_99 rfl rfl) ?_
 rintro _ w ⟨rfl, hE⟩
 replace hF := hF.ext hE
 clear hE
 refine ⟨hF.sub (.cons _ (.cons_cons _ (.cons_cons _ .slnil))), ?_⟩
 refine f_free rfl (v := .int .i64 (orL [Lib.compareInt k k', Lib.compareBytes t t', cmpL Lib.compareBytes ks ks'])) (fun w hC => x_assign rfl) (d_nil (e_seq (c_seq (c_seq (c_region (o_val (v := .int .i64 (orL [Lib.compareInt k k', Lib.compareBytes t t', cmpL Lib.compareBytes ks ks'])) (x_move rfl) (o_val (v := .bool (decide ((orL [Lib.compareInt k k', Lib.compareBytes t t', cmpL Lib.compareBytes ks ks'] : Int) ≠ (0 : Int)))) (x_neq rfl rfl) (o_nil (e_seq ?_)))))))))
 refine c_splitd (d := 51) (p := (orL [Lib.compareInt k k', Lib.compareBytes t t', cmpL Lib.compareBytes ks ks'] : Int) ≠ (0 : Int)) rfl (fun hc1 => ?_) (fun hc1 => ?_)
 refine c_ift rfl (c_seq (c_region (o_val (v := .int .i64 (orL [Lib.compareInt k k', Lib.compareBytes t t', cmpL Lib.compareBytes ks ks'])) (x_move rfl) (o_val (v := .int .i64 (orL [Lib.compareInt k k', Lib.compareBytes t t', cmpL Lib.compareBytes ks ks'])) (x_assign rfl) (o_nil (e_seq ?_))))))
 refine c_ret (e_ret (post_ret (res_1 (v := .int .i64 (orL [Lib.compareInt k k', Lib.compareBytes t t', cmpL Lib.compareBytes ks ks'])) rfl rfl) ?_))
 refine ⟨congrArg (Value.int .i64) ?_, hF.same⟩
 rw [orderT]
 clear hF hR hR' hX hY hK hK' ih hk hk'
 · first | (simp_all [orderL_eq]; done) | (simp_all [orderL_eq]; omega)
 refine c_iff rfl (c_skip (e_seq (c_seq (c_region (o_val (v := .pointer (some ⟨b1, 3, none⟩)) (x_fieldAddrO fa_25_3 rfl) (o_val (v := .slice (B) (xs.length) (e)) (x_load Tryz.isAgg23 rfl (hF.cell 2 rfl rfl)) (o_val (v := .pointer (some ⟨b2, 3, none⟩)) (x_fieldAddrO fa_25_3 rfl) (o_val (v := .slice (B') (ys.length) (e')) (x_load Tryz.isAgg23 rfl (hF.cell 1 rfl rfl)) ?_))))))))
 refine o_call (rowsT_c orderT xs ys B B' e e' S S' _ (hF.rep hX) (hF.rep hY) (fun x hx y hy S1 S2 w1 cs1 ct1 hs h1 h2 => ih x hx y S1 S2 w1 cs1 ct1 h1 h2 (okTs_mem hk.2.2 x hx) (okTs_mem hk'.2.2 y hy) ((hG.ext hF.same).ext hs))) (x_call3 en_103 rfl rfl rfl rfl) ?_
 rintro _ w ⟨rfl, hE⟩
 replace hF := hF.ext hE
 clear hE
 refine o_val (v := .int .i64 (cmpL orderT xs ys)) (x_assign rfl) (o_nil (e_seq ?_))
 refine c_ret (e_ret (post_ret (res_1 (v := .int .i64 (cmpL orderT xs ys)) rfl rfl) ?_))
 refine ⟨congrArg (Value.int .i64) ?_, hF.same⟩
 rw [orderT]
 clear hF hR hR' hX hY hK hK' ih hk hk'
 · first | (simp_all [orderL_eq]; done) | (simp_all [orderL_eq]; omega)
theorem order_c (x : Tree) : OrderC x := Tree.ind order_step x
end Go.Scarf
namespace Go.Scarf
open Go.RowKit Go.Proofs
def SameV (x y : Tree) : Bool := openB x && openB y && sameT x y
theorem open_all {x : Tree} (h : openB x = true) : allT nodeB x = true := by unfold openB at h; rw [Bool.and_eq_true] at h; exact h.2
set_option maxHeartbeats 1000000 in
set_option maxRecDepth 10000 in
theorem sameV_c (x y : Tree) (hsx : sizeT x ≤ 1000000000) (hsy : sizeT y ≤ 1000000000) (S S' : Nat → Prop) (w0 : World) (cs ct : List Value) (hR : Rep S w0 (treeD x) cs) (hR' : Rep S' w0 (treeD y) ct) (hk : okT x) (hk' : okT y) (hG : Gl w0) : Calls Tryz.prog 42 #[.agg cs.toArray, .agg ct.toArray] w0 (Ret fun v w' => v = .bool (SameV x y) ∧ Same [] w0 w') := by
 have hl : cs.length = 4 := hR.length.trans (size_treeD x)
 have ho := hR.one_
 have hl' : ct.length = 4 := hR'.length.trans (size_treeD y)
 have ho' := hR'.one_
 refine calls_start Tryz.func42 rfl Tryz.ntmps42 (Nat.le_of_ble_eq_true rfl) (args_2 _ _) ?_
 have hF := FR.start w0 []
 refine c_seq (c_region ?_)
 refine o_box (v := .agg (List.toArray cs)) (cs := (List.toArray cs)) hF rfl rfl ?_
 clear hF; rintro b1 w hb1 hF -
 refine o_box (v := .agg (List.toArray ct)) (cs := (List.toArray ct)) hF rfl rfl ?_
 clear hF; rintro b2 w hb2 hF -
 refine o_val (v := .bool false) (x_assign rfl) (o_nil (e_seq (c_seq (c_region (o_val (v := .agg (List.toArray cs)) (x_loadS (l := cs) Tryz.isAgg25 Tryz.sizeOf25 rfl hl (hF.cellsAll 1 rfl)) ?_)))))
 refine o_call (open_v x hsx S _ cs (hF.rep hR) hk (hG.ext hF.same)) (x_call1 en_33 rfl rfl) ?_
 rintro _ w ⟨rfl, hE⟩
 replace hF := hF.ext hE
 clear hE
 refine o_val (v := .bool (openB x)) (x_move rfl) ?_
 refine o_split (d := 7) (b := openB x) rfl (fun hg0 => ?_) (fun hg0 => ?_)
 refine o_val (v := .agg (List.toArray ct)) (x_loadS (l := ct) Tryz.isAgg25 Tryz.sizeOf25 rfl hl' (hF.cellsAll 0 rfl)) ?_
 refine o_call (open_v y hsy S' _ ct (hF.rep hR') hk' (hG.ext hF.same)) (x_call1 en_33 rfl rfl) ?_
 rintro _ w ⟨rfl, hE⟩
 replace hF := hF.ext hE
 clear hE
 refine o_val (v := .bool (openB y)) (x_pickt rfl rfl) (o_val (v := .bool (openB y)) (x_move rfl) ?_)
 refine o_split (d := 11) (b := openB y) rfl (fun hg1 => ?_) (fun hg1 => ?_)
 refine o_val (v := .agg (List.toArray cs)) (x_loadS (l := cs) Tryz.isAgg25 Tryz.sizeOf25 rfl hl (hF.cellsAll 1 rfl)) (o_val (v := .agg (List.toArray ct)) (x_loadS (l := ct) Tryz.isAgg25 Tryz.sizeOf25 rfl hl' (hF.cellsAll 0 rfl)) ?_)
 refine o_call (same_c x y S S' _ cs ct (hF.rep hR) (hF.rep hR') (open_all (by simp_all)) (open_all (by simp_all))) (x_call2 en_69 rfl rfl rfl) ?_
 rintro _ w ⟨rfl, hE⟩
 replace hF := hF.ext hE
 clear hE
 refine o_val (v := .bool (sameT x y)) (x_pickt rfl rfl) (o_val (v := .bool (sameT x y)) (x_assign rfl) (o_nil (e_seq ?_)))
 refine c_ret (e_ret (post_ret (res_1 (v := .bool (sameT x y)) rfl rfl) ?_))
 refine ⟨congrArg Value.bool ?_, hF.same⟩
 unfold SameV
 clear hF hR hR'
 simp_all
 refine o_off (o_off (o_off (o_val (v := .bool false) (x_pickf rfl rfl) (o_val (v := .bool false) (x_assign rfl) (o_nil (e_seq ?_))))))
 refine c_ret (e_ret (post_ret (res_1 (v := .bool false) rfl rfl) ?_))
 refine ⟨congrArg Value.bool ?_, hF.same⟩
 unfold SameV
 clear hF hR hR'
 simp_all
 refine o_off (o_off (o_val (v := .bool false) (x_pickf rfl rfl) (o_val (v := .bool false) (x_move rfl) (o_off (o_off (o_off (o_val (v := .bool false) (x_pickf rfl rfl) (o_val (v := .bool false) (x_assign rfl) (o_nil (e_seq ?_))))))))))
 refine c_ret (e_ret (post_ret (res_1 (v := .bool false) rfl rfl) ?_))
 refine ⟨congrArg Value.bool ?_, hF.same⟩
 unfold SameV
 clear hF hR hR'
 simp_all
set_option maxHeartbeats 1000000 in
set_option maxRecDepth 10000 in
theorem of_c (s : Str) (w0 : World) : Calls Tryz.prog 25 #[.string (bs s)] w0 (Ret fun v w' => v = .agg #[.int .i64 4, .string (bs s), .slice none 0 0, .slice none 0 0] ∧ Same [] w0 w') := by
 refine calls_start Tryz.func25 rfl Tryz.ntmps25 (Nat.le_of_ble_eq_true rfl) (args_1 _) ?_
 have hF := FR.start w0 []
 refine c_seq (c_region ?_)
 refine o_alloc (cs := #[.int .i64 (0), .string (bs ([])), .slice (none) (0) (0), .slice (none) (0) (0)]) hF Tryz.zeroValue25 rfl ?_
 clear hF; rintro b1 w hb1 hF -
 refine o_nil (e_seq (c_seq (c_region (o_val (v := .string (bs (s))) (x_move rfl) ?_))))
 refine o_val (w' := w) (v := .agg #[.int .i64 (4), .string (bs (s)), .slice (none) (0) (0), .slice (none) (0) (0)]) (by kernel_rfl) ?_
 refine o_store 0 (l := [.int .i64 (4), .string (bs (s)), .slice (none) (0) (0), .slice (none) (0) (0)]) (cs' := #[.int .i64 (4), .string (bs (s)), .slice (none) (0) (0), .slice (none) (0) (0)]) hF Tryz.sizeOf25 rfl (v := .agg #[.int .i64 (4), .string (bs (s)), .slice (none) (0) (0), .slice (none) (0) (0)]) rfl rfl (by simp [one]) rfl (Nat.le_of_ble_eq_true rfl) rfl ?_
 clear hF; rintro w hF -
 replace hF : FR w0 [] [(b1, .cells #[.int .i64 (4), .string (bs (s)), .slice (none) (0) (0), .slice (none) (0) (0)] 25)] w := hF
 refine o_nil (e_seq ?_)
 refine c_ret (e_ret (post_ret (res_c rfl (l := [.int .i64 (4), .string (bs (s)), .slice (none) (0) (0), .slice (none) (0) (0)]) rfl Tryz.isAgg25 Tryz.sizeOf25 rfl (hF.cellsAll 0 rfl)) ?_))
 exact ⟨rfl, hF.same⟩
set_option maxHeartbeats 1000000 in
set_option maxRecDepth 10000 in
theorem num_c (n : Int) (h1 : -9223372036854775808 ≤ n) (h2 : n ≤ 9223372036854775807) (w0 : World) (hG : Gl w0) : Calls Tryz.prog 39 #[.int .i64 n] w0 (Ret fun v w' => v = .agg #[.int .i64 3, .string (bs (textN (ofN n))), .slice none 0 0, .slice none 0 0] ∧ Same [] w0 w') := by
 refine calls_start Tryz.func39 rfl Tryz.ntmps39 (Nat.le_of_ble_eq_true rfl) (args_1 _) ?_
 have hF := FR.start w0 []
 refine c_seq (c_region ?_)
 refine o_alloc (cs := #[.int .i64 (0), .string (bs ([])), .slice (none) (0) (0), .slice (none) (0) (0)]) hF Tryz.zeroValue25 rfl ?_
 clear hF; rintro b1 w hb1 hF -
 refine o_nil (e_seq (c_seq (c_region (o_val (v := .int .i64 (n)) (x_move rfl) ?_))))
 refine o_call (numOf_c n h1 h2 _ (hG.ext hF.same)) (x_call1 en_65 rfl rfl) ?_
 rintro _ w ⟨rfl, hE⟩
 replace hF := hF.ext hE
 clear hE
 refine o_call (text_c (ofN n) (by have := parseN_len (Lib.itoa n); exact Nat.le_trans this (by decide)) _ (hG.ext hF.same)) (x_call1 en_64 rfl rfl) ?_
 rintro _ w ⟨rfl, hE⟩
 replace hF := hF.ext hE
 clear hE
 refine o_val (w' := w) (v := .agg #[.int .i64 (3), .string (bs (textN (ofN n))), .slice (none) (0) (0), .slice (none) (0) (0)]) (by kernel_rfl) ?_
 refine o_store 0 (l := [.int .i64 (3), .string (bs (textN (ofN n))), .slice (none) (0) (0), .slice (none) (0) (0)]) (cs' := #[.int .i64 (3), .string (bs (textN (ofN n))), .slice (none) (0) (0), .slice (none) (0) (0)]) hF Tryz.sizeOf25 rfl (v := .agg #[.int .i64 (3), .string (bs (textN (ofN n))), .slice (none) (0) (0), .slice (none) (0) (0)]) rfl rfl (by simp [one]) rfl (Nat.le_of_ble_eq_true rfl) rfl ?_
 clear hF; rintro w hF -
 replace hF : FR w0 [] [(b1, .cells #[.int .i64 (3), .string (bs (textN (ofN n))), .slice (none) (0) (0), .slice (none) (0) (0)] 25)] w := hF
 refine o_nil (e_seq ?_)
 refine c_ret (e_ret (post_ret (res_c rfl (l := [.int .i64 (3), .string (bs (textN (ofN n))), .slice (none) (0) (0), .slice (none) (0) (0)]) rfl Tryz.isAgg25 Tryz.sizeOf25 rfl (hF.cellsAll 0 rfl)) ?_))
 exact ⟨rfl, hF.same⟩
end Go.Scarf
