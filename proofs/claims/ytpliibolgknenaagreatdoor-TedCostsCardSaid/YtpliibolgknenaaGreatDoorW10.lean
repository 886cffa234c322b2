/- A part of the proof. -/
import Derived.Test.YtpliibolgknenaaGreatDoorW4
set_option linter.all false
namespace Go.Scarf
open Go.RowKit Go.Proofs
def MapRep (S : Nat → Prop) (w : World) (xs : List Tree) (l : MapL) : Prop := ∀ i (h : i < l.length), ∃ cs : List Value, l[i].2 = .agg cs.toArray ∧ ∃ h2 : i < xs.length, Rep S w (treeD xs[i]) cs
theorem MapRep.nil (S : Nat → Prop) (w : World) (xs : List Tree) : MapRep S w xs [] := fun i h => absurd h (by simp)
theorem MapRep.snoc {S : Nat → Prop} {w : World} {xs : List Tree} {l : MapL} {k : Str} {cs : List Value} (h : MapRep S w xs l) (hl : l.length < xs.length) (hr : Rep S w (treeD xs[l.length]) cs) : MapRep S w xs (l ++ [(k, .agg cs.toArray)]) := by
  intro i hi
  rw [List.length_append, List.length_singleton] at hi
  by_cases he : i < l.length
  · obtain ⟨c, h1, h2, h3⟩ := h i he
    exact ⟨c, by rw [List.getElem_append_left he]; exact h1, h2, h3⟩
  · obtain rfl : i = l.length := by omega
    exact ⟨cs, by simp, hl, hr⟩
theorem lookM_none {l : MapL} {ks : List Str} {j : Nat} (h : j < ks.length) (hl : l.map (·.1) = ks.take j) (hn : ks.Nodup) : lookM l ks[j] = none := by
  have hnot : ¬ ks[j] ∈ ks.take j := fun hm => not_nodup_of h hm hn
  rw [← hl] at hnot
  unfold lookM
  rw [Option.map_eq_none_iff, List.find?_eq_none]
  intro x hx he
  exact hnot (List.mem_map.2 ⟨x, hx, by simpa using he⟩)
theorem keys_snoc {l : MapL} {ks : List Str} {j : Nat} {v : Value} (h : j < ks.length) (hl : l.map (·.1) = ks.take j) : (l ++ [(ks[j], v)]).map (·.1) = ks.take (j + 1) := by
  rw [List.map_append, hl, List.take_succ_eq_append_getElem h]; rfl
theorem keys_len {l : MapL} {ks : List Str} {j : Nat} (h : j ≤ ks.length) (hl : l.map (·.1) = ks.take j) : l.length = j := by
  have := congrArg List.length hl
  rw [List.length_map, List.length_take] at this; omega
set_option maxHeartbeats 1000000 in
set_option maxRecDepth 10000 in
theorem members_c (k : Int) (t : Str) (ks : List Str) (xs : List Tree) (hn : ks.Nodup) (hlen : ks.length = xs.length) (S : Nat → Prop) (w0 : World) (cs : List Value) (hR : Rep S w0 (treeD (.node k t ks xs)) cs) : Calls Tryz.prog 70 #[.agg cs.toArray] w0 (Ret fun v w' => ∃ (b : Nat) (l : MapL), v = .map (some b) ∧ w0.heap.size ≤ b ∧ w'.heap[b]? = some (mapO l) ∧ l.map (·.1) = ks ∧ MapRep S w' xs l ∧ Same [] w0 w') := by
 obtain ⟨A, c, B, e, rfl, -, -, hK, hX⟩ := hR.tree_inv
 have hXl := hX.slice_len
 have hKl := hK.slice_len
 refine calls_start Tryz.func70 rfl Tryz.ntmps70 (Nat.le_of_ble_eq_true rfl) (args_1 _) ?_
 have hF := FR.start w0 []
 refine c_seq (c_region ?_)
 refine o_box (v := .agg #[.int .i64 (k), .string (bs (t)), .slice (A) (ks.length) (c), .slice (B) (xs.length) (e)]) (cs := #[.int .i64 (k), .string (bs (t)), .slice (A) (ks.length) (c), .slice (B) (xs.length) (e)]) hF rfl rfl ?_
 clear hF; rintro b1 w hb1 hF -
 refine o_val (x_assign rfl) (o_nil (e_seq (c_seq (c_region (o_val (v := .pointer (some ⟨b1, 2, none⟩)) (x_fieldAddrO fa_25_2 rfl) (o_val (v := .slice (A) (ks.length) (c)) (x_load Tryz.isAgg22 rfl (hF.cell 0 rfl rfl)) (o_val (v := .int .i64 ((ks.length : Nat))) (x_len_slice Tryz.underlying22 rfl) ?_)))))))
 refine o_new (v := fun b => .map (some b)) hF (x_makeMap Tryz.underlying100 rfl) ?_
 clear hF; rintro b2 w hb2 hF -
 refine o_val (x_assign rfl) (o_nil (e_seq (c_seq (c_seq (c_region (o_val (v := .pointer (some ⟨b1, 2, none⟩)) (x_fieldAddrO fa_25_2 rfl) (o_val (v := .slice (A) (ks.length) (c)) (x_load Tryz.isAgg22 rfl (hF.cell 1 rfl rfl)) (o_val (v := .int .i64 ((ks.length : Nat))) (x_len_slice Tryz.underlying22 rfl) (o_val (x_move rfl) (o_nil (e_seq (c_block ?_))))))))))))
 refine c_loop (fun μ σ w => ∃ (j : Nat), ∃ (l : MapL), μ = ks.length - j ∧ (j ≤ ks.length) ∧ (l.map (·.1) = ks.take j) ∧ (MapRep S w0 xs l) ∧ AllEq σ [(1, .pointer (some ⟨b1, 0, none⟩)), (3, .map (some b2)), (11, .slice (A) (ks.length) (c)), (12, .int .i64 ((ks.length : Nat))), (13, .int .i64 ((j : Int)))] ∧ FR w0 [] [(b2, mapO (l)), (b1, .cells #[.int .i64 (k), .string (bs (t)), .slice (A) (ks.length) (c), .slice (B) (xs.length) (e)] 25)] w) _ ⟨0, [], rfl, (Nat.zero_le _), (by simp), (MapRep.nil _ _ _), ⟨rfl, rfl, rfl, rfl, rfl, trivial⟩, hF⟩ ?_
 clear hF; rintro μ σ w ⟨j, l, rfl, hj, hl, hr, hs, hF⟩
 refine Cg.slots hs ?_
 clear hs; intro σ
 have hll := keys_len hj hl
 refine c_seq (c_region (o_val (v := .bool (decide (((j : Int) : Int) < ((ks.length : Nat) : Int)))) (x_lss rfl rfl) (o_nil (e_seq (c_seq ?_)))))
 refine c_splitd (d := 14) (p := ((j : Int) : Int) < ((ks.length : Nat) : Int)) rfl (fun hc0 => ?_) (fun hc0 => ?_)
 refine c_ift rfl (c_skip (e_seq (c_seq (c_block (c_seq (c_region (o_val (x_move rfl) ?_)))))))
 obtain ⟨ad0, hA0, hk0, hx0⟩ := hK.str_elem (i := j) (by omega)
 refine o_val (v := .pointer (some (ad0.add (j * 1)))) (x_indexAddrA (i := (j : Int)) sl_22 rfl hA0 rfl (by omega) (by omega)) (o_val (v := .string (bs (ks[j]))) (x_load Tryz.isAgg9 rfl (hF.cell0 hk0)) (o_val (x_assign rfl) (o_val (x_assign rfl) (o_nil (e_seq (c_region (o_val (x_move rfl) (o_val (x_move rfl) (o_val (v := .pointer (some ⟨b1, 3, none⟩)) (x_fieldAddrO fa_25_3 rfl) (o_val (v := .slice (B) (xs.length) (e)) (x_load Tryz.isAgg23 rfl (hF.cell 1 rfl rfl)) (o_val (x_move rfl) ?_)))))))))))
 obtain ⟨ad1, cs1, hA1, hl1, hk1, hx1⟩ := hX.tree_elem (i := j) (by omega)
 have ho1 := hx1.one_
 refine o_val (v := .pointer (some (ad1.add (j * 4)))) (x_indexAddrA (i := (j : Int)) sl_23 rfl hA1 rfl (by omega) (by omega)) (o_val (v := .agg (List.toArray cs1)) (x_loadS (l := cs1) Tryz.isAgg25 Tryz.sizeOf25 rfl hl1 (hF.cells0 hk1)) ?_)
 refine o_mapUpdate 0 (v := .agg (List.toArray cs1)) hF Tryz.underlying100 Tryz.underlying9 rfl rfl rfl rfl (lookM_none (by omega) hl hn) ?_
 clear hF; rintro w hF -
 replace hF : FR w0 [] [(b2, mapO (l ++ [(ks[j], .agg (List.toArray cs1))])), (b1, .cells #[.int .i64 (k), .string (bs (t)), .slice (A) (ks.length) (c), .slice (B) (xs.length) (e)] 25)] w := hF
 refine o_nil (e_block (e_seq (c_region (o_val (v := .int .i64 (((j : Int) : Int) + 1)) (x_add rfl rfl (wrap_id (by omega) (by omega))) (o_val (x_move rfl) (o_nil ?_))))))
 refine e_inv ⟨_, ?_, j + 1, l ++ [(ks[j], .agg (List.toArray cs1))], rfl, (by omega), (keys_snoc (by omega) hl), (hr.snoc (by omega) (by simpa only [hll] using hx1)), ⟨rfl, rfl, rfl, rfl, rfl, trivial⟩, hF⟩
 omega
 refine c_iff rfl ?_
 refine c_exit (e_exit rfl ?_)
 refine e_seq (c_seq (c_region (o_val (x_move rfl) (o_val (x_assign rfl) (o_nil (e_seq ?_))))))
 refine c_ret (e_ret (post_ret (res_1 (v := .map (some b2)) rfl rfl) ?_))
 refine ⟨b2, l, rfl, by have := hF.ge (i := 0) rfl; exact this, hF.heap (i := 0) rfl, ?_, ?_, hF.same⟩
 rw [hl]; exact List.take_of_length_le (by omega)
 intro i hi; obtain ⟨cs, h1, h2, h3⟩ := hr i hi; exact ⟨cs, h1, h2, hF.rep h3⟩
end Go.Scarf
namespace Go.Scarf
open Go.RowKit Go.Proofs
def lookT : List Str → List Tree → Str → Option Tree
  | k :: ks, x :: xs, key => if k = key then some x else lookT ks xs key
  | _, _, _ => none
theorem MapRep.tail {S : Nat → Prop} {w : World} {x : Tree} {xs : List Tree} {p : Str × Value} {l : MapL} (h : MapRep S w (x :: xs) (p :: l)) : MapRep S w xs l := by
  intro i hi
  obtain ⟨cs, h1, h2, h3⟩ := h (i + 1) (by simpa using hi)
  exact ⟨cs, by simpa using h1, by simpa using h2, by simpa using h3⟩
theorem lookM_tree {S : Nat → Prop} {w : World} (key : Str) : ∀ {ks : List Str} {xs : List Tree} {l : MapL}, l.map (·.1) = ks → MapRep S w xs l →
    (lookM l key = none ∧ lookT ks xs key = none) ∨ ∃ (cs : List Value) (y : Tree), lookM l key = some (.agg cs.toArray) ∧ lookT ks xs key = some y ∧ y ∈ xs ∧ Rep S w (treeD y) cs
  | ks, xs, [], hk, _ => by
    left
    simp only [List.map_nil] at hk
    subst hk
    exact ⟨rfl, by cases xs <;> rfl⟩
  | ks, [], p :: l, hk, hm => by
    obtain ⟨cs, h1, h2, h3⟩ := hm 0 (by simp)
    simp at h2
  | ks, x :: xs, p :: l, hk, hm => by
    rw [List.map_cons] at hk
    subst hk
    by_cases h : p.1 = key
    · right
      obtain ⟨cs, h1, h2, h3⟩ := hm 0 (by simp)
      refine ⟨cs, x, ?_, by simp [lookT, h], by simp, h3⟩
      simp only [List.getElem_cons_zero] at h1
      simp [lookM, h, h1]
    · have e1 : lookM (p :: l) key = lookM l key := by simp [lookM, h]
      have e2 : lookT (p.1 :: l.map (·.1)) (x :: xs) key = lookT (l.map (·.1)) xs key := by simp [lookT, h]
      rw [e1, e2]
      rcases lookM_tree key rfl hm.tail with h | ⟨cs, y, h1, h2, h3, h4⟩
      · exact .inl h
      · exact .inr ⟨cs, y, h1, h2, by simp [h3], h4⟩
def BothC (w0 : World) (g : Nat) (xs ys : List Tree) (q : Tree → Tree → Bool) : Prop := ∀ x, x ∈ xs → ∀ y, y ∈ ys → ∀ S S' w cs ct, Same [] w0 w → Rep S w (treeD x) cs → Rep S' w (treeD y) ct → Calls Tryz.prog g #[.agg cs.toArray, .agg ct.toArray] w (Ret fun v w' => v = .bool (q x y) ∧ Same [] w w')
theorem BothC.ext {w0 w : World} {g : Nat} {xs ys : List Tree} {q : Tree → Tree → Bool} (h : BothC w0 g xs ys q) (hs : Same [] w0 w) : BothC w g xs ys q := fun x hx y hy S S' w' cs ct hw => h x hx y hy S S' w' cs ct (hs.trans hw)
end Go.Scarf
namespace Go.Scarf
open Go.RowKit Go.Proofs
theorem MapRep.ext {S : Nat → Prop} {w w' : World} {xs : List Tree} {l : MapL} (h : MapRep S w xs l) (hs : Same [] w w') : MapRep S w' xs l := fun i hi => by
  obtain ⟨cs, h1, h2, h3⟩ := h i hi
  exact ⟨cs, h1, h2, h3.ext hs⟩
theorem Same.heap {w w' : World} {b : Nat} {o : Obj} (hs : Same [] w w') (h : w.heap[b]? = some o) : w'.heap[b]? = some o := (hs.block b (lt_of_some h) (by simp)).trans h
theorem allTs_mem {q : Tree → Bool} : ∀ {xs : List Tree}, allTs q xs = true → ∀ x ∈ xs, allT q x = true
  | [], _, _, h => absurd h (by simp)
  | y :: ys, h, x, hx => by
    rw [allTs, Bool.and_eq_true] at h
    rcases List.mem_cons.1 hx with rfl | hx
    · exact h.1
    · exact allTs_mem h.2 x hx
theorem allT_node {q : Tree → Bool} {k : Int} {t : Str} {ks : List Str} {xs : List Tree} (h : allT q (.node k t ks xs) = true) : q (.node k t ks xs) = true ∧ ∀ x ∈ xs, allT q x = true := by
  rw [allT, Bool.and_eq_true] at h
  exact ⟨h.1, allTs_mem h.2⟩
theorem node6 {t : Str} {ks : List Str} {xs : List Tree} (h : nodeB (.node 6 t ks xs) = true) : ks.Nodup ∧ ks.length = xs.length := by
  simp only [nodeB, keyedB] at h
  simp at h
  exact ⟨h.1.1.1, by omega⟩
end Go.Scarf
namespace Go.Scarf
open Go.RowKit Go.Proofs
def BothI (w0 : World) (g : Nat) (xs ys : List Tree) (q : Tree → Tree → Int) : Prop := ∀ x, x ∈ xs → ∀ y, y ∈ ys → ∀ S S' w cs ct, Same [] w0 w → Rep S w (treeD x) cs → Rep S' w (treeD y) ct → Calls Tryz.prog g #[.agg cs.toArray, .agg ct.toArray] w (Ret fun v w' => v = .int .i64 (q x y) ∧ Same [] w w')
theorem BothI.ext {w0 w : World} {g : Nat} {xs ys : List Tree} {q : Tree → Tree → Int} (h : BothI w0 g xs ys q) (hs : Same [] w0 w) : BothI w g xs ys q := fun x hx y hy S S' w' cs ct hw => h x hx y hy S S' w' cs ct (hs.trans hw)
end Go.Scarf
namespace Go.Scarf
open Go.RowKit Go.Proofs
end Go.Scarf
namespace Go.Scarf
open Go.RowKit Go.Proofs
theorem open_all {x : Tree} (h : openB x = true) : allT nodeB x = true := by unfold openB at h; rw [Bool.and_eq_true] at h; exact h.2
set_option maxHeartbeats 1000000 in
set_option maxRecDepth 10000 in
theorem of_c (s : Str) (w0 : World) : Calls Tryz.prog 47 #[.string (bs s)] w0 (Ret fun v w' => v = .agg #[.int .i64 4, .string (bs s), .slice none 0 0, .slice none 0 0] ∧ Same [] w0 w') := by
 refine calls_start Tryz.func47 rfl Tryz.ntmps47 (Nat.le_of_ble_eq_true rfl) (args_1 _) ?_
 have hF := FR.start w0 []
 refine c_seq (c_region ?_)
 refine o_alloc (cs := #[.int .i64 (0), .string (bs ([])), .slice (none) (0) (0), .slice (none) (0) (0)]) hF Tryz.zeroValue25 rfl ?_
 clear hF; rintro b1 w hb1 hF -
 refine o_nil (e_seq (c_seq (c_region (o_val (x_move rfl) ?_))))
 refine o_val (w' := w) (v := .agg #[.int .i64 (4), .string (bs (s)), .slice (none) (0) (0), .slice (none) (0) (0)]) (by kernel_rfl) ?_
 refine o_store 0 (l := [.int .i64 (4), .string (bs (s)), .slice (none) (0) (0), .slice (none) (0) (0)]) (cs' := #[.int .i64 (4), .string (bs (s)), .slice (none) (0) (0), .slice (none) (0) (0)]) hF Tryz.sizeOf25 rfl (v := .agg #[.int .i64 (4), .string (bs (s)), .slice (none) (0) (0), .slice (none) (0) (0)]) rfl rfl (by simp [one]) rfl (Nat.le_of_ble_eq_true rfl) rfl ?_
 clear hF; rintro w hF -
 replace hF : FR w0 [] [(b1, .cells #[.int .i64 (4), .string (bs (s)), .slice (none) (0) (0), .slice (none) (0) (0)] 25)] w := hF
 refine o_nil (e_seq ?_)
 refine c_ret (e_ret (post_ret (res_c rfl (l := [.int .i64 (4), .string (bs (s)), .slice (none) (0) (0), .slice (none) (0) (0)]) rfl Tryz.isAgg25 Tryz.sizeOf25 rfl (hF.cellsAll 0 rfl)) ?_))
 exact ⟨rfl, hF.same⟩
set_option maxHeartbeats 1000000 in
set_option maxRecDepth 10000 in
theorem num_c (n : Int) (h1 : -9223372036854775808 ≤ n) (h2 : n ≤ 9223372036854775807) (w0 : World) (hG : Gl w0) : Calls Tryz.prog 22 #[.int .i64 n] w0 (Ret fun v w' => v = .agg #[.int .i64 3, .string (bs (textN (ofN n))), .slice none 0 0, .slice none 0 0] ∧ Same [] w0 w') := by
 refine calls_start Tryz.func22 rfl Tryz.ntmps22 (Nat.le_of_ble_eq_true rfl) (args_1 _) ?_
 have hF := FR.start w0 []
 refine c_seq (c_region ?_)
 refine o_alloc (cs := #[.int .i64 (0), .string (bs ([])), .slice (none) (0) (0), .slice (none) (0) (0)]) hF Tryz.zeroValue25 rfl ?_
 clear hF; rintro b1 w hb1 hF -
 refine o_nil (e_seq (c_seq (c_region (o_val (x_move rfl) ?_))))
 refine o_call (numOf_c n h1 h2 _ (hG.ext hF.same)) (x_call1 en_38 rfl rfl) ?_
 rintro _ w ⟨rfl, hE⟩
 replace hF := hF.ext hE
 clear hE
 refine o_call (text_c (ofN n) (by have := parseN_len (Lib.itoa n); exact Nat.le_trans this (by decide)) _ (hG.ext hF.same)) (x_call1 en_37 rfl rfl) ?_
 rintro _ w ⟨rfl, hE⟩
 replace hF := hF.ext hE
 clear hE
 refine o_val (w' := w) (v := .agg #[.int .i64 (3), .string (bs (textN (ofN n))), .slice (none) (0) (0), .slice (none) (0) (0)]) (by kernel_rfl) ?_
 refine o_store 0 (l := [.int .i64 (3), .string (bs (textN (ofN n))), .slice (none) (0) (0), .slice (none) (0) (0)]) (cs' := #[.int .i64 (3), .string (bs (textN (ofN n))), .slice (none) (0) (0), .slice (none) (0) (0)]) hF Tryz.sizeOf25 rfl (v := .agg #[.int .i64 (3), .string (bs (textN (ofN n))), .slice (none) (0) (0), .slice (none) (0) (0)]) rfl rfl (by simp [one]) rfl (Nat.le_of_ble_eq_true rfl) rfl ?_
 clear hF; rintro w hF -
 replace hF : FR w0 [] [(b1, .cells #[.int .i64 (3), .string (bs (textN (ofN n))), .slice (none) (0) (0), .slice (none) (0) (0)] 25)] w := hF
 refine o_nil (e_seq ?_)
 refine c_ret (e_ret (post_ret (res_c rfl (l := [.int .i64 (3), .string (bs (textN (ofN n))), .slice (none) (0) (0), .slice (none) (0) (0)]) rfl Tryz.isAgg25 Tryz.sizeOf25 rfl (hF.cellsAll 0 rfl)) ?_))
 exact ⟨rfl, hF.same⟩
end Go.Scarf
