/- A part of the proof. -/
import Derived.Test.YtonoededmmohhaaGreatDoorE7
import Derived.Test.YtonoededmmohhaaGreatDoorP1
set_option linter.all false
namespace Go.Scarf
open Go.RowKit Go.Proofs
theorem look_at : ∀ {ks : List Str} {xs : List Tree} {key : Str}, key ∈ ks → ∀ h : ks.idxOf key < xs.length, lookT ks xs key = some (xs[ks.idxOf key]'h)
  | [], _, _, h, _ => absurd h (by simp)
  | k :: ks, [], key, _, h2 => absurd h2 (by simp)
  | k :: ks, x :: xs, key, h, h2 => by
    rw [lookT]
    by_cases he : k = key
    · have h0 : (k :: ks).idxOf key = 0 := by rw [List.idxOf_cons, he]; simp
      rw [if_pos he]
      simp only [h0, List.getElem_cons_zero]
    · have hb : (k == key) = false := by simpa using he
      have h0 : (k :: ks).idxOf key = ks.idxOf key + 1 := by rw [List.idxOf_cons, hb]; simp
      have hk : key ∈ ks := by
        rcases List.mem_cons.1 h with h | h
        · exact absurd h.symm he
        · exact h
      rw [if_neg he, look_at hk (by rw [h0] at h2; simpa using h2)]
      simp only [h0, List.getElem_cons_succ]
theorem at_look {ks : List Str} {xs : List Tree} {key : Str} {q : Nat} (hl : ks.length = xs.length) (h : atZ ks key = (q : Int)) : ∃ hq : q < xs.length, lookT ks xs key = some xs[q] := by
  unfold atZ at h
  by_cases hm : key ∈ ks
  · rw [if_pos hm] at h
    have e : ks.idxOf key = q := by omega
    have hlt : ks.idxOf key < xs.length := by rw [← hl]; exact List.idxOf_lt_length_iff.2 hm
    have := look_at hm hlt
    subst e
    exact ⟨hlt, this⟩
  · rw [if_neg hm] at h; omega
theorem at_no {ks : List Str} {xs : List Tree} {key : Str} (h : atZ ks key < 0) : lookT ks xs key = none := by
  unfold atZ at h
  by_cases hm : key ∈ ks
  · rw [if_pos hm] at h; omega
  · cases hl : lookT ks xs key with
    | none => rfl
    | some y => exact absurd (lookT_key hl) hm
theorem get_shut {x : Tree} {key : Str} (h : ¬ (openB x = true ∧ x.kind = 6)) : getV x key = (zeroT, false) := by rw [getV, if_neg h]
theorem get_none {k : Int} {t : Str} {ks : List Str} {xs : List Tree} {key : Str} (h : lookT ks xs key = none) : getV (.node k t ks xs) key = (zeroT, false) := by
  rw [getV]
  split
  · show (match lookT ks xs key with | some y => (y, true) | none => (zeroT, false)) = _
    rw [h]
  · rfl
theorem get_some {k : Int} {t : Str} {ks : List Str} {xs : List Tree} {key : Str} {y : Tree} (ho : openB (.node k t ks xs) = true) (hk : k = 6) (h : lookT ks xs key = some y) : getV (.node k t ks xs) key = (y, true) := by
  rw [getV, if_pos ⟨ho, hk⟩]
  show (match lookT ks xs key with | some y => (y, true) | none => (zeroT, false)) = _
  rw [h]
set_option maxHeartbeats 1000000 in
set_option maxRecDepth 10000 in
theorem rgetV_c (k : Int) (t : Str) (ks : List Str) (xs : List Tree) (key : Str) (hsz : sizeT (.node k t ks xs) ≤ 1000000000) (hm : maxL (.node k t ks xs) ≤ 1073741824) (S : Nat → Prop) (w0 : World) (cs : List Value) (hR : Rep S w0 (treeD (.node k t ks xs)) cs) : Calls Tryz.prog 31 #[.agg cs.toArray, .string (bs key)] w0 (Ret fun v w' => ∃ ct : List Value, v = .tuple #[.agg ct.toArray, .bool (getV (.node k t ks xs) key).2] ∧ Rep (Btw w0 w') w' (treeD (getV (.node k t ks xs) key).1) ct ∧ Same [] w0 w') := by
 replace hR := hR.old
 obtain ⟨A, c, B, e, rfl, -, -, hK, hX⟩ := hR.tree_inv
 have hXl := hX.slice_len
 refine calls_start Tryz.func31 rfl Tryz.ntmps31 (Nat.le_of_ble_eq_true rfl) (args_2 _ _) ?_
 have hF := FR.start w0 []
 refine c_seq (c_region ?_)
 refine o_box (v := .agg #[.int .i64 (k), .string (bs (t)), .slice (A) (ks.length) (c), .slice (B) (xs.length) (e)]) (cs := #[.int .i64 (k), .string (bs (t)), .slice (A) (ks.length) (c), .slice (B) (xs.length) (e)]) hF rfl rfl ?_
 clear hF; rintro b1 w hb1 hF -
 refine o_alloc (cs := #[.int .i64 (0), .string (bs ([])), .slice (none) (0) (0), .slice (none) (0) (0)]) hF Tryz.zeroValue32 rfl ?_
 clear hF; rintro b2 w hb2 hF -
 refine o_val (x_assign rfl) (o_nil (e_seq (c_seq (c_region (o_val (v := .agg #[.int .i64 (k), .string (bs (t)), .slice (A) (ks.length) (c), .slice (B) (xs.length) (e)]) (x_loadS (l := [.int .i64 (k), .string (bs (t)), .slice (A) (ks.length) (c), .slice (B) (xs.length) (e)]) Tryz.isAgg32 Tryz.sizeOf32 rfl rfl (hF.cellsAll 1 rfl)) ?_)))))
 refine o_call (ropen_t (.node k t ks xs) hsz hm _ _ _ (hF.rep hR)) (x_call1 en_49 rfl rfl) ?_
 rintro _ w ⟨rfl, hE⟩
 replace hF := hF.ext hE
 clear hE
 refine o_val (x_assign rfl) (o_nil (e_seq (c_seq (c_region (o_val (v := .agg #[.int .i64 (k), .string (bs (t)), .slice (A) (ks.length) (c), .slice (B) (xs.length) (e)]) (x_loadS (l := [.int .i64 (k), .string (bs (t)), .slice (A) (ks.length) (c), .slice (B) (xs.length) (e)]) Tryz.isAgg32 Tryz.sizeOf32 rfl rfl (hF.cellsAll 1 rfl)) (o_val (x_move rfl) ?_))))))
 refine o_call (at_c k t ks xs key _ _ _ (hF.rep hR)) (x_call2 en_50 rfl rfl rfl) ?_
 rintro _ w ⟨rfl, hE⟩
 generalize hkk : atZ ks key = kk
 replace hF := hF.ext hE
 clear hE
 refine o_val (x_assign rfl) (o_nil (e_seq (c_seq (c_seq (c_region (o_val (x_move rfl) (o_val (v := .bool (!(openB (.node k t ks xs)))) (x_not rfl) (o_val (x_move rfl) ?_))))))))
 refine o_split (d := 15) (b := !(openB (.node k t ks xs))) rfl (fun hg0 => ?_) (fun hg0 => ?_)
 refine o_off (o_off (o_off (o_val (x_pickt rfl rfl) (o_val (x_move rfl) (o_off (o_off (o_val (x_pickt rfl rfl) (o_nil (e_seq (c_ift rfl (c_seq (c_region ?_))))))))))))
 refine o_val (w' := w) (v := .agg #[.int .i64 (0), .string (bs ([])), .slice (none) (0) (0), .slice (none) (0) (0)]) (by kernel_rfl) ?_
 refine o_store 0 (l := [.int .i64 (0), .string (bs ([])), .slice (none) (0) (0), .slice (none) (0) (0)]) (cs' := #[.int .i64 (0), .string (bs ([])), .slice (none) (0) (0), .slice (none) (0) (0)]) hF Tryz.sizeOf32 rfl (v := .agg #[.int .i64 (0), .string (bs ([])), .slice (none) (0) (0), .slice (none) (0) (0)]) rfl rfl (by simp [one]) rfl (Nat.le_of_ble_eq_true rfl) rfl ?_
 clear hF; rintro w hF -
 replace hF : FR w0 [] [(b2, .cells #[.int .i64 (0), .string (bs ([])), .slice (none) (0) (0), .slice (none) (0) (0)] 32), (b1, .cells #[.int .i64 (k), .string (bs (t)), .slice (A) (ks.length) (c), .slice (B) (xs.length) (e)] 32)] w := hF
 refine o_val (x_assign rfl) (o_nil (e_seq ?_))
 refine c_ret (e_ret (post_ret (res_ct rfl (l := [.int .i64 (0), .string (bs ([])), .slice (none) (0) (0), .slice (none) (0) (0)]) rfl Tryz.isAgg32 Tryz.sizeOf32 rfl (hF.cellsAll 0 rfl) (v := .bool false) rfl) ?_))
 have hg : getV (.node k t ks xs) key = (zeroT, false) := get_shut (fun hh => by have h1 := nb_true (by assumption : (!openB (.node k t ks xs)) = true); rw [h1] at hh; cases hh.1)
 refine ⟨_, by rw [hg], ?_, hF.same⟩
 rw [hg]
 exact zero_rep _ _
 refine o_val (v := .pointer (some ⟨b1, 0, none⟩)) (x_fieldAddrO fa_32_0 rfl) (o_val (v := .int .i64 (k)) (x_load Tryz.isAgg3 rfl (hF.cell 1 rfl rfl)) (o_val (v := .bool (decide ((k : Int) ≠ (6 : Int)))) (x_neq rfl rfl) (o_val (x_pickf rfl rfl) (o_val (x_move rfl) ?_))))
 refine o_splitd (d := 20) (p := (k : Int) ≠ (6 : Int)) rfl (fun hg1 => ?_) (fun hg1 => ?_)
 refine o_off (o_off (o_val (x_pickt rfl rfl) (o_nil (e_seq (c_ift rfl (c_seq (c_region ?_)))))))
 refine o_val (w' := w) (v := .agg #[.int .i64 (0), .string (bs ([])), .slice (none) (0) (0), .slice (none) (0) (0)]) (by kernel_rfl) ?_
 refine o_store 0 (l := [.int .i64 (0), .string (bs ([])), .slice (none) (0) (0), .slice (none) (0) (0)]) (cs' := #[.int .i64 (0), .string (bs ([])), .slice (none) (0) (0), .slice (none) (0) (0)]) hF Tryz.sizeOf32 rfl (v := .agg #[.int .i64 (0), .string (bs ([])), .slice (none) (0) (0), .slice (none) (0) (0)]) rfl rfl (by simp [one]) rfl (Nat.le_of_ble_eq_true rfl) rfl ?_
 clear hF; rintro w hF -
 replace hF : FR w0 [] [(b2, .cells #[.int .i64 (0), .string (bs ([])), .slice (none) (0) (0), .slice (none) (0) (0)] 32), (b1, .cells #[.int .i64 (k), .string (bs (t)), .slice (A) (ks.length) (c), .slice (B) (xs.length) (e)] 32)] w := hF
 refine o_val (x_assign rfl) (o_nil (e_seq ?_))
 refine c_ret (e_ret (post_ret (res_ct rfl (l := [.int .i64 (0), .string (bs ([])), .slice (none) (0) (0), .slice (none) (0) (0)]) rfl Tryz.isAgg32 Tryz.sizeOf32 rfl (hF.cellsAll 0 rfl) (v := .bool false) rfl) ?_))
 have hg : getV (.node k t ks xs) key = (zeroT, false) := get_shut (fun hh => by have h1 : k = 6 := hh.2; omega)
 refine ⟨_, by rw [hg], ?_, hF.same⟩
 rw [hg]
 exact zero_rep _ _
 refine o_val (x_move rfl) (o_val (v := .bool (decide ((kk : Int) < (0 : Int)))) (x_lss rfl rfl) (o_val (x_pickf rfl rfl) (o_nil (e_seq ?_))))
 refine c_splitd (d := 23) (p := (kk : Int) < (0 : Int)) rfl (fun hc0 => ?_) (fun hc0 => ?_)
 refine c_ift rfl (c_seq (c_region ?_))
 refine o_val (w' := w) (v := .agg #[.int .i64 (0), .string (bs ([])), .slice (none) (0) (0), .slice (none) (0) (0)]) (by kernel_rfl) ?_
 refine o_store 0 (l := [.int .i64 (0), .string (bs ([])), .slice (none) (0) (0), .slice (none) (0) (0)]) (cs' := #[.int .i64 (0), .string (bs ([])), .slice (none) (0) (0), .slice (none) (0) (0)]) hF Tryz.sizeOf32 rfl (v := .agg #[.int .i64 (0), .string (bs ([])), .slice (none) (0) (0), .slice (none) (0) (0)]) rfl rfl (by simp [one]) rfl (Nat.le_of_ble_eq_true rfl) rfl ?_
 clear hF; rintro w hF -
 replace hF : FR w0 [] [(b2, .cells #[.int .i64 (0), .string (bs ([])), .slice (none) (0) (0), .slice (none) (0) (0)] 32), (b1, .cells #[.int .i64 (k), .string (bs (t)), .slice (A) (ks.length) (c), .slice (B) (xs.length) (e)] 32)] w := hF
 refine o_val (x_assign rfl) (o_nil (e_seq ?_))
 refine c_ret (e_ret (post_ret (res_ct rfl (l := [.int .i64 (0), .string (bs ([])), .slice (none) (0) (0), .slice (none) (0) (0)]) rfl Tryz.isAgg32 Tryz.sizeOf32 rfl (hF.cellsAll 0 rfl) (v := .bool false) rfl) ?_))
 have hg : getV (.node k t ks xs) key = (zeroT, false) := get_none (at_no (by omega))
 refine ⟨_, by rw [hg], ?_, hF.same⟩
 rw [hg]
 exact zero_rep _ _
 have ho_ : openB (.node k t ks xs) = true := nb_false (by assumption)
 have k6 : k = 6 := by omega
 have hlen : ks.length = xs.length := (node6 (k6 ▸ (allT_node (open_all ho_)).1)).2
 obtain ⟨q, hq⟩ : ∃ q : Nat, kk = (q : Int) := ⟨kk.toNat, by omega⟩
 subst hq
 obtain ⟨hqx, hlk⟩ := at_look (xs := xs) hlen hkk
 refine c_iff rfl (c_skip (e_seq (c_seq (c_region (o_val (v := .pointer (some ⟨b1, 3, none⟩)) (x_fieldAddrO fa_32_3 rfl) (o_val (v := .slice (B) (xs.length) (e)) (x_load Tryz.isAgg30 rfl (hF.cell 1 rfl rfl)) (o_val (x_move rfl) ?_)))))))
 obtain ⟨ad2, cs2, hA2, hl2, hk2, hx2⟩ := hX.tree_elem (i := q) (hqx)
 have ho2 := hx2.one_
 refine o_val (v := .pointer (some (ad2.add (q * 4)))) (x_indexAddrA (i := (q : Int)) sl_30 rfl hA2 rfl (by omega) (by omega)) (o_val (v := .agg (List.toArray cs2)) (x_loadS (l := cs2) Tryz.isAgg32 Tryz.sizeOf32 rfl hl2 (hF.cells0 hk2)) ?_)
 refine o_call (cloneR_c xs[q] _ _ cs2 (hF.rep hx2) (by have := sizeTs_mem (List.getElem_mem hqx); rw [sizeT] at hsz; omega) (by have h1 := keys_lt xs[q] ((allT_node (open_all ho_)).2 _ (List.getElem_mem hqx)); have := sizeTs_mem (List.getElem_mem hqx); rw [sizeT] at hsz; omega)) (x_call1 en_12 rfl rfl) ?_
 rintro _ w ⟨ct, rfl, hRt, hE⟩
 have hlct : ct.length = 4 := hRt.length.trans (size_treeD _)
 have hoct := hRt.one_
 have hXX := RX.made (ids := [b2, b1]) hF.same.size (fun x hx => hF.lt_ids (by grind)) hRt
 replace hF := hF.ext hE
 clear hE hRt
 refine o_store 0 (l := ct) (cs' := (List.toArray ct)) hF (by rw [hlct]; exact Tryz.sizeOf32) rfl (v := .agg (List.toArray ct)) rfl rfl (hoct) rfl (by rw [hlct]; exact Nat.le_of_ble_eq_true rfl) (putA_all (by rw [hlct]; rfl)) ?_
 clear hF; intro w hF hE
 replace hXX := hXX.store hE (by grind)
 clear hE
 replace hF : FR w0 [] [(b2, .cells (List.toArray ct) 32), (b1, .cells #[.int .i64 (k), .string (bs (t)), .slice (A) (ks.length) (c), .slice (B) (xs.length) (e)] 32)] w := hF
 refine o_val (x_assign rfl) (o_nil (e_seq ?_))
 refine c_ret (e_ret (post_ret (res_ct rfl (l := ct) rfl Tryz.isAgg32 Tryz.sizeOf32 hlct (hF.cellsAll 0 rfl) (v := .bool true) rfl) ?_))
 have hg : getV (.node k t ks xs) key = (xs[q], true) := get_some ho_ k6 hlk
 refine ⟨_, by rw [hg], ?_, hF.same⟩
 rw [hg]
 · exact hXX.done
end Go.Scarf
