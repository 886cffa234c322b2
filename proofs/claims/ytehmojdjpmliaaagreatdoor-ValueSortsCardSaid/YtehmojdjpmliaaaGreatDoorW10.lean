/- A part of the proof. -/
import Derived.Test.YtehmojdjpmliaaaGreatDoorW9
set_option linter.all false
namespace Go.Scarf
open Go.RowKit Go.Proofs
def MapRep (S : Nat → Prop) (w : World) (xs : List Tree) (l : MapL) : Prop := ∀ i (h : i < l.length), ∃ cs : List Value, l[i].2 = .agg cs.toArray ∧ ∃ h2 : i < xs.length, Rep S w (treeD xs[i]) cs
theorem MapRep.nil (S : Nat → Prop) (w : World) (xs : List Tree) : MapRep S w xs [] := fun i h => absurd h (by simp)
theorem MapRep.snoc {S : Nat → Prop} {w : World} {xs : List Tree} {l : MapL} {k : Str} {cs : List Value} (h : MapRep S w xs l) (hl : l.length < xs.length) (hr : Rep S w (treeD xs[l.length]) cs) : MapRep S w xs (l ++ [(k, .agg cs.toArray)]) := by
  intro i hi
  rw [List.length_append, List.length_singleton] at hi
  by_cases he : i < l.length
  · obtain ⟨c, h1, h2, h3⟩ := h i he
    exact ⟨c, by rw [List.getElem_append_left he]; exact h1, h2, h3⟩
  · obtain rfl : i = l.length := by omega
    exact ⟨cs, by simp, hl, hr⟩
theorem lookM_none {l : MapL} {ks : List Str} {j : Nat} (h : j < ks.length) (hl : l.map (·.1) = ks.take j) (hn : ks.Nodup) : lookM l ks[j] = none := by
  have hnot : ¬ ks[j] ∈ ks.take j := fun hm => not_nodup_of h hm hn
  rw [← hl] at hnot
  unfold lookM
  rw [Option.map_eq_none_iff, List.find?_eq_none]
  intro x hx he
  exact hnot (List.mem_map.2 ⟨x, hx, by simpa using he⟩)
theorem keys_snoc {l : MapL} {ks : List Str} {j : Nat} {v : Value} (h : j < ks.length) (hl : l.map (·.1) = ks.take j) : (l ++ [(ks[j], v)]).map (·.1) = ks.take (j + 1) := by
  rw [List.map_append, hl, List.take_succ_eq_append_getElem h]; rfl
theorem keys_len {l : MapL} {ks : List Str} {j : Nat} (h : j ≤ ks.length) (hl : l.map (·.1) = ks.take j) : l.length = j := by
  have := congrArg List.length hl
  rw [List.length_map, List.length_take] at this; omega
set_option maxHeartbeats 1000000 in
set_option maxRecDepth 10000 in
theorem members_c (k : Int) (t : Str) (ks : List Str) (xs : List Tree) (hn : ks.Nodup) (hlen : ks.length = xs.length) (S : Nat → Prop) (w0 : World) (cs : List Value) (hR : Rep S w0 (treeD (.node k t ks xs)) cs) : Calls Tryz.prog 56 #[.agg cs.toArray] w0 (Ret fun v w' => ∃ (b : Nat) (l : MapL), v = .map (some b) ∧ w0.heap.size ≤ b ∧ w'.heap[b]? = some (mapO l) ∧ l.map (·.1) = ks ∧ MapRep S w' xs l ∧ Same [] w0 w') := by
  obtain ⟨A, c, B, e, rfl, -, -, hK, hX⟩ := hR.tree_inv
  have hXl := hX.slice_len
  have hKl := hK.slice_len
  refine calls_start Tryz.func56 rfl Tryz.ntmps56 (Nat.le_of_ble_eq_true rfl) (args_1 _) ?_
  have hF := FR.start w0 []
  refine c_seq ?_
  refine c_region ?_
  refine o_box (v := .agg #[.int .i64 (k), .string (bs (t)), .slice (A) (ks.length) (c), .slice (B) (xs.length) (e)]) (cs := #[.int .i64 (k), .string (bs (t)), .slice (A) (ks.length) (c), .slice (B) (xs.length) (e)]) hF rfl rfl ?_
  clear hF; intro b1 w hb1 hF hE
  clear hE
  refine o_val (v := .map none) (x_assign rfl) ?_
  refine o_nil ?_
  refine e_seq ?_
  refine c_seq ?_
  refine c_region ?_
  refine o_val (v := .pointer (some ⟨b1, 2, none⟩)) (x_fieldAddrO fa_25_2 rfl) ?_
  refine o_val (v := .slice (A) (ks.length) (c)) (x_load Tryz.isAgg22 rfl (hF.cell 0 rfl rfl)) ?_
  refine o_val (v := .int .i64 ((ks.length : Nat))) (x_len_slice Tryz.underlying22 rfl) ?_
  refine o_new (v := fun b => .map (some b)) hF (x_makeMap Tryz.underlying58 rfl) ?_
  clear hF; intro b2 w hb2 hF hE
  clear hE
  refine o_val (v := .map (some b2)) (x_assign rfl) ?_
  refine o_nil ?_
  refine e_seq ?_
  refine c_seq ?_
  refine c_seq ?_
  refine c_region ?_
  refine o_val (v := .pointer (some ⟨b1, 2, none⟩)) (x_fieldAddrO fa_25_2 rfl) ?_
  refine o_val (v := .slice (A) (ks.length) (c)) (x_load Tryz.isAgg22 rfl (hF.cell 1 rfl rfl)) ?_
  refine o_val (v := .int .i64 ((ks.length : Nat))) (x_len_slice Tryz.underlying22 rfl) ?_
  refine o_val (v := .int .i64 (0)) (x_move rfl) ?_
  refine o_nil ?_
  refine e_seq ?_
  refine c_block ?_
  refine c_loop (fun μ σ w => ∃ (j : Nat), ∃ (l : MapL), μ = ks.length - j ∧ (j ≤ ks.length) ∧ (l.map (·.1) = ks.take j) ∧ (MapRep S w0 xs l) ∧ AllEq σ [(1, .pointer (some ⟨b1, 0, none⟩)), (3, .map (some b2)), (11, .slice (A) (ks.length) (c)), (12, .int .i64 ((ks.length : Nat))), (13, .int .i64 ((j : Int)))] ∧ FR w0 [] [(b2, mapO (l)), (b1, .cells #[.int .i64 (k), .string (bs (t)), .slice (A) (ks.length) (c), .slice (B) (xs.length) (e)] 25)] w) _ ⟨0, [], rfl, (Nat.zero_le _), (by simp), (MapRep.nil _ _ _), ⟨rfl, rfl, rfl, rfl, rfl, trivial⟩, hF⟩ ?_
  clear hF; rintro μ σ w ⟨j, l, rfl, hj, hl, hr, hs, hF⟩
  refine Cg.slots hs ?_
  clear hs; intro σ
  have hll := keys_len hj hl
  refine c_seq ?_
  refine c_region ?_
  refine o_val (v := .bool (decide (((j : Int) : Int) < ((ks.length : Nat) : Int)))) (x_lss rfl rfl) ?_
  refine o_nil ?_
  refine e_seq ?_
  refine c_seq ?_
  refine c_splitd (d := 14) (p := ((j : Int) : Int) < ((ks.length : Nat) : Int)) rfl (fun hc0 => ?_) (fun hc0 => ?_)
  ·
    refine c_ift rfl ?_
    refine c_skip ?_
    refine e_seq ?_
    refine c_seq ?_
    refine c_block ?_
    refine c_seq ?_
    refine c_region ?_
    refine o_val (v := .int .i64 ((j : Int))) (x_move rfl) ?_
    obtain ⟨ad0, hA0, hk0, hx0⟩ := hK.str_elem (i := j) (by omega)
    refine o_val (v := .pointer (some (ad0.add (j * 1)))) (x_indexAddrA (i := (j : Int)) sl_22 rfl hA0 rfl (by omega) (by omega)) ?_
    refine o_val (v := .string (bs (ks[j]))) (x_load Tryz.isAgg9 rfl (hF.cell0 hk0)) ?_
    refine o_val (v := .int .i64 ((j : Int))) (x_assign rfl) ?_
    refine o_val (v := .string (bs (ks[j]))) (x_assign rfl) ?_
    refine o_nil ?_
    refine e_seq ?_
    refine c_region ?_
    refine o_val (v := .map (some b2)) (x_move rfl) ?_
    refine o_val (v := .string (bs (ks[j]))) (x_move rfl) ?_
    refine o_val (v := .pointer (some ⟨b1, 3, none⟩)) (x_fieldAddrO fa_25_3 rfl) ?_
    refine o_val (v := .slice (B) (xs.length) (e)) (x_load Tryz.isAgg23 rfl (hF.cell 1 rfl rfl)) ?_
    refine o_val (v := .int .i64 ((j : Int))) (x_move rfl) ?_
    obtain ⟨ad1, cs1, hA1, hl1, hk1, hx1⟩ := hX.tree_elem (i := j) (by omega)
    have ho1 := hx1.one_
    refine o_val (v := .pointer (some (ad1.add (j * 4)))) (x_indexAddrA (i := (j : Int)) sl_23 rfl hA1 rfl (by omega) (by omega)) ?_
    refine o_val (v := .agg (List.toArray cs1)) (x_loadS (l := cs1) Tryz.isAgg25 Tryz.sizeOf25 rfl hl1 (hF.cells0 hk1)) ?_
    refine o_mapUpdate 0 (v := .agg (List.toArray cs1)) hF Tryz.underlying58 Tryz.underlying9 rfl rfl rfl rfl (lookM_none (by omega) hl hn) ?_
    clear hF; intro w hF hE
    clear hE
    replace hF : FR w0 [] [(b2, mapO (l ++ [(ks[j], .agg (List.toArray cs1))])), (b1, .cells #[.int .i64 (k), .string (bs (t)), .slice (A) (ks.length) (c), .slice (B) (xs.length) (e)] 25)] w := hF
    refine o_nil ?_
    refine e_block ?_
    refine e_seq ?_
    refine c_region ?_
    refine o_val (v := .int .i64 (((j : Int) : Int) + 1)) (x_add rfl rfl (wrap_id (by omega) (by omega))) ?_
    refine o_val (v := .int .i64 (((j : Int) : Int) + 1)) (x_move rfl) ?_
    refine o_nil ?_
    refine e_inv ⟨_, ?_, j + 1, l ++ [(ks[j], .agg (List.toArray cs1))], rfl, (by omega), (keys_snoc (by omega) hl), (hr.snoc (by omega) (by simpa only [hll] using hx1)), ⟨rfl, rfl, rfl, rfl, rfl, trivial⟩, hF⟩
    omega
  ·
    refine c_iff rfl ?_
    refine c_exit (e_exit rfl ?_)
    refine e_seq ?_
    refine c_seq ?_
    refine c_region ?_
    refine o_val (v := .map (some b2)) (x_move rfl) ?_
    refine o_val (v := .map (some b2)) (x_assign rfl) ?_
    refine o_nil ?_
    refine e_seq ?_
    refine c_ret (e_ret (post_ret (res_1 (v := .map (some b2)) rfl rfl) ?_))
    refine ⟨b2, l, rfl, by have := hF.ge (i := 0) rfl; exact this, hF.heap (i := 0) rfl, ?_, ?_, hF.same⟩
    · rw [hl]; exact List.take_of_length_le (by omega)
    · intro i hi; obtain ⟨cs, h1, h2, h3⟩ := hr i hi; exact ⟨cs, h1, h2, hF.rep h3⟩
end Go.Scarf
