/- A part of the proof. -/
import Derived.Test.YtpliibolgknenaaGreatDoorZ8
import Derived.Test.YtpliibolgknenaaGreatDoorZ4
import Derived.Test.YtpliibolgknenaaGreatDoorW19
set_option linter.all false
namespace Go.Scarf
open Go.RowKit Go.Proofs
set_option maxHeartbeats 4000000 in
set_option maxRecDepth 10000 in
theorem value_step (k : Int) (t : Str) (ks : List Str) (xs : List Tree) (ih : ∀ x ∈ xs, NodC x) (A D : Option Addr) (c e : Nat) (w0 : World) (B pb : Nat) (ls : List Str) (fs : List Int) (hT : Tb w0 B pb ls fs) (hG : Gl w0) (hpN : 7 ≤ pb) (hlf : ls.length = fs.length) (hR : Rep (fun b => b ∉ Wk2 w0 B pb) w0 (treeD (.node k t ks xs)) [.int .i64 (k), .string (bs (t)), .slice (A) (ks.length) (c), .slice (D) (xs.length) (e)]) (hn : allT nodeB (.node k t ks xs) = true) (hsz : sizeT (.node k t ks xs) ≤ 1000000000) (hm : maxL (.node k t ks xs) ≤ 1073741824) (hlen : ls.length + (labT (.node k t ks xs)).length ≤ 512) : Calls Tryz.prog 27 #[.pointer (some ⟨pb, 0, none⟩), .agg #[.int .i64 (k), .string (bs (t)), .slice (A) (ks.length) (c), .slice (D) (xs.length) (e)]] w0 (Ret fun v w' => v = .tuple #[] ∧ Tb w' B pb (ls ++ labT (.node k t ks xs)) (fs ++ lefT (.node k t ks xs) ls.length) ∧ Same (Wk2 w0 B pb) w0 w') := by
 obtain ⟨hn1, hns⟩ := allT_node hn
 have hsz1 : sizeTs xs + 1 ≤ 1000000000 := by rw [sizeT] at hsz; omega
 have hm1 : maxLs xs ≤ 1073741824 ∧ maxKs ks ≤ 1073741824 := by rw [maxL] at hm; omega
 have hlp := lab_pos (.node k t ks xs)
 have hRw := hR
 refine calls_start Tryz.func27 rfl Tryz.ntmps27 (Nat.le_of_ble_eq_true rfl) (args_2 _ _) ?_
 have hB := TW.start hT
 have hF := FR.start w0 (Wk2 w0 B pb)
 refine c_seq (c_region ?_)
 refine o_box (v := .pointer (some ⟨pb, 0, none⟩)) (cs := #[.pointer (some ⟨pb, 0, none⟩)]) hF rfl rfl ?_
 clear hF; intro b1 w hb1 hF hE
 have hnb1 : b1 ≠ pb := by have := hB.lt; omega
 replace hB := hB.ext hE
 replace hRw := hRw.off2_ext hE
 clear hE
 refine o_box (v := .agg #[.int .i64 (k), .string (bs (t)), .slice (A) (ks.length) (c), .slice (D) (xs.length) (e)]) (cs := #[.int .i64 (k), .string (bs (t)), .slice (A) (ks.length) (c), .slice (D) (xs.length) (e)]) hF rfl rfl ?_
 clear hF; intro b2 w hb2 hF hE
 have hnb2 : b2 ≠ pb := by have := hB.lt; omega
 replace hB := hB.ext hE
 replace hRw := hRw.off2_ext hE
 clear hE
 refine o_nil (e_seq (c_seq ?_))
 have hRw2 := hRw
 obtain ⟨A_, c_, D_, e_, he_, -, -, hKw, hXw⟩ := hRw2.tree_inv
 simp only [List.cons.injEq, Value.slice.injEq, and_true] at he_
 obtain ⟨-, -, ⟨rfl, -, rfl⟩, ⟨rfl, -, rfl⟩⟩ := he_
 refine c_region (o_val (v := .pointer (some ⟨b2, 0, none⟩)) (x_fieldAddrO fa_25_0 rfl) (o_val (v := .int .i64 (k)) (x_load Tryz.isAgg3 rfl (hF.cell 0 rfl rfl)) (o_nil (e_seq (c_block (c_seq (c_region (o_val (v := .bool (decide ((k : Int) = (5 : Int)))) (x_eql rfl rfl) (o_val (x_assign rfl) (o_nil (e_seq ?_)))))))))))
 refine c_splitd (d := 10) (p := (k : Int) = (5 : Int)) rfl (fun hc0 => ?_) (fun hc0 => ?_)
 refine c_ift rfl (c_region (o_val (v := .pointer (some ⟨pb, 0, none⟩)) (x_load Tryz.isAgg75 rfl (hF.cell 1 rfl rfl)) (o_val (v := .func (.func 44) #[] #[.pointer (some ⟨b2, 0, none⟩), .pointer (some ⟨b1, 0, none⟩)]) (x_makeFunc02 rfl rfl) ?_)))
 have h5 : k = 5 := by assumption
 have hl5 : ls.length + (labTs xs).length + 1 ≤ 512 := by rw [labT, if_pos h5, List.length_append, List.length_singleton] at hlen; omega
 replace hl5 : ls.length + (labTs xs).length ≤ 511 := by omega
 refine o_call (add_c w B pb 44 #[.pointer (some ⟨b2, 0, none⟩), .pointer (some ⟨b1, 0, none⟩)] en_44 ls _ fs _ [91] hB.tb (nitems_c k t ks xs A D c e w B pb ls fs hB.tb (hG.wrote2 hF.same (by have := hT.lt; omega) hpN) hpN hlf ih hns (by omega) (by omega) b2 b1 (hF.heap (i := 0) rfl) (hF.heap (i := 1) rfl) (by assumption) hXw (by omega)) (by rw [List.length_append]; omega) (by rw [List.length_append, lefTs_length]; omega)) (x_call3 en_43 rfl rfl rfl rfl) ?_
 rintro _ w ⟨rfl, hT2, hE⟩
 replace hF := hF.wrote2 hB hE (by intro z hz; simp only [List.mem_cons, List.not_mem_nil, or_false] at hz; rcases hz with rfl | rfl <;> exact ⟨.inl rfl, by assumption⟩)
 replace hB := hB.wrote hT2 hE
 clear hE
 refine o_nil (e_block ?_)
 refine e_done (post_end (res_0 rfl) ?_)
 have h5 : k = 5 := by assumption
 rw [labT, lefT, if_pos h5, if_pos h5, ← List.append_assoc, ← List.append_assoc]
 exact ⟨rfl, hB.tb, hF.same⟩
 refine c_iff rfl (c_seq (c_region (o_val (v := .bool (decide ((k : Int) = (6 : Int)))) (x_eql rfl rfl) (o_val (x_assign rfl) (o_nil (e_seq ?_))))))
 refine c_splitd (d := 15) (p := (k : Int) = (6 : Int)) rfl (fun hc1 => ?_) (fun hc1 => ?_)
 refine c_ift rfl (c_region (o_val (v := .pointer (some ⟨pb, 0, none⟩)) (x_load Tryz.isAgg75 rfl (hF.cell 1 rfl rfl)) (o_val (v := .func (.func 45) #[] #[.pointer (some ⟨b2, 0, none⟩), .pointer (some ⟨b1, 0, none⟩)]) (x_makeFunc02 rfl rfl) ?_)))
 have h6 : k = 6 := by assumption
 have hl5 : ls.length + (labKs xs ks).length + 1 ≤ 512 := by rw [labT, if_neg (by omega), if_pos h6, List.length_append, List.length_singleton] at hlen; omega
 refine o_call (add_c w B pb 45 #[.pointer (some ⟨b2, 0, none⟩), .pointer (some ⟨b1, 0, none⟩)] en_45 ls _ fs _ [123] hB.tb (nkeys_c k t ks xs A D c e w B pb ls fs hB.tb (hG.wrote2 hF.same (by have := hT.lt; omega) hpN) hpN hlf ih hns (by omega) (by omega) (node6 (h6 ▸ hn1)).2 (fun s hs => by have := maxKs_mem hs; omega) b2 b1 (hF.heap (i := 0) rfl) (hF.heap (i := 1) rfl) (by assumption) (by assumption) hXw hKw (by omega)) (by rw [List.length_append]; omega) (by rw [List.length_append, lefKs_length]; omega)) (x_call3 en_43 rfl rfl rfl rfl) ?_
 rintro _ w ⟨rfl, hT2, hE⟩
 replace hF := hF.wrote2 hB hE (by intro z hz; simp only [List.mem_cons, List.not_mem_nil, or_false] at hz; rcases hz with rfl | rfl <;> exact ⟨.inl rfl, by assumption⟩)
 replace hB := hB.wrote hT2 hE
 clear hE
 refine o_nil (e_block ?_)
 refine e_done (post_end (res_0 rfl) ?_)
 have h6 : k = 6 := by assumption
 rw [labT, lefT, if_neg (by omega), if_pos h6, if_neg (by omega), if_pos h6, ← List.append_assoc, ← List.append_assoc]
 exact ⟨rfl, hB.tb, hF.same⟩
 refine c_iff rfl ?_
 refine c_drawF [] (.free 0 (.free 1 (.act 2 (.act 3 .nil)))) (by kernel_rfl) hF (by kernel_rfl) (by kernel_rfl) ?_
 clear hF; intro w hF hE
 replace hB := hB.ext hE
 replace hRw := hRw.off2_ext hE
 clear hE
 refine ⟨fun wq => FR w0 (Wk2 w0 B pb) [(b2, .cells #[.int .i64 (k), .string (bs (t)), .slice (A) (ks.length) (c), .slice (D) (xs.length) (e)] 25), (b1, .cells #[.pointer (some ⟨pb, 0, none⟩)] 75)] wq, hF, ?_⟩
 refine f_free rfl (v := .pointer (some ⟨pb, 0, none⟩)) (fun w hC => x_load Tryz.isAgg75 rfl (hC.cell 1 rfl rfl)) (f_free rfl (v := .agg #[.int .i64 (k), .string (bs (t)), .slice (A) (ks.length) (c), .slice (D) (xs.length) (e)]) (fun w hC => x_loadS (l := [.int .i64 (k), .string (bs (t)), .slice (A) (ks.length) (c), .slice (D) (xs.length) (e)]) Tryz.isAgg25 Tryz.sizeOf25 rfl rfl (hC.cellsAll 0 rfl)) ?_)
 refine f_call rfl (compT_c (.node k t ks xs) _ _ [.int .i64 (k), .string (bs (t)), .slice (A) (ks.length) (c), .slice (D) (xs.length) (e)] hRw (hG.wrote2 hF.same (by have := hT.lt; omega) hpN) (by omega) (by omega)) (x_call1 en_46 rfl rfl) ?_
 rintro _ w ⟨rfl, hE⟩
 replace hF := hF.ext hE
 replace hB := hB.ext hE
 replace hRw := hRw.off2_ext hE
 clear hE
 refine ⟨hF, ?_⟩
 refine f_call rfl (add_c w B pb 49 #[] en_49 ls _ fs _ (compS (.node k t ks xs)) hB.tb (nnone_c w B pb ls fs hB.tb) (by omega) (by omega)) (x_call3 en_43 rfl rfl rfl rfl) ?_
 rintro _ w ⟨rfl, hT2, hE⟩
 replace hF := hF.wrote2 hB hE (by intro z hz; simp only [List.mem_cons, List.not_mem_nil, or_false] at hz; rcases hz with rfl | rfl <;> exact ⟨.inl rfl, by assumption⟩)
 replace hB := hB.wrote hT2 hE
 clear hE
 refine ⟨hF, ?_⟩
 refine d_nil (e_block ?_)
 refine e_done (post_end (res_0 rfl) ?_)
 rw [labT, lefT, if_neg (by omega), if_neg (by omega), if_neg (by omega), if_neg (by omega)]
 exact ⟨rfl, hB.tb, hF.same⟩
theorem nodes_c (x : Tree) : NodC x := Tree.ind (Q := NodC) (fun k t ks xs ih => by
  intro w0 B pb ls fs cs hT hR hG hpN hlf hn hsz hm hlen
  have hR0 := hR
  obtain ⟨A, c, D, e, rfl, -⟩ := hR0.tree_inv
  exact value_step k t ks xs ih A D c e w0 B pb ls fs hT hG hpN hlf hR hn hsz hm hlen) x
end Go.Scarf
namespace Go.Scarf
open Go.RowKit Go.Proofs
def treeL (x : Tree) : List Str := labT (sortedV x)
def treeF (x : Tree) : List Int := lefT (sortedV x) 0
theorem treeF_len (x : Tree) : (treeF x).length = (treeL x).length := lef_len _ 0
theorem sorted_nodes {x : Tree} (h : rightB x = true) : allT nodeB (sortedV x) = true := open_all (by rw [sorted_open (right_open h)]; exact open_sort (right_open h))
theorem treeL_le {x : Tree} (h : rightB x = true) : (treeL x).length ≤ 2 * sizeT x := by
  have h1 := lab_le (sortedV x) (sorted_nodes h)
  have h2 := keys_lt (sortedV x) (sorted_nodes h)
  have h3 : sizeT (sortedV x) = sizeT x := by rw [sorted_open (right_open h)]; exact (sort_size x (open_all (right_open h))).1
  unfold treeL
  omega
theorem tree_right {x : Tree} (h : rightB x = true) (hs : sizeT x ≤ 256) : RightT (treeL x) (treeF x) := right_nodes _ (by have := treeL_le h; unfold treeL at this; omega)
theorem labTs_lim : ∀ (xs : List Tree), (∀ x ∈ xs, ∀ s ∈ labT x, s.length ≤ 140737488355329) → ∀ s ∈ labTs xs, s.length ≤ 140737488355329
  | [], _, s, hs => by rw [labTs] at hs; cases hs
  | x :: xs, h, s, hs => by
    rw [labTs] at hs
    rcases List.mem_append.1 hs with h1 | h1
    · exact h x (by simp) s h1
    · exact labTs_lim xs (fun y hy => h y (by simp [hy])) s h1
theorem labKs_lim : ∀ (xs : List Tree) (ks : List Str), (∀ x ∈ xs, ∀ s ∈ labT x, s.length ≤ 140737488355329) → (∀ k ∈ ks, k.length ≤ 1073741824) → ∀ s ∈ labKs xs ks, s.length ≤ 140737488355329
  | [], _, _, _, s, hs => by rw [labKs] at hs; cases hs
  | x :: xs, ks, h, hk, s, hs => by
    rw [labKs] at hs
    rcases List.mem_append.1 hs with h1 | h1
    · exact h x (by simp) s h1
    · rcases List.mem_cons.1 h1 with rfl | h2
      · have : maxL (.node 4 (ks.headD []) [] []) ≤ 1073741824 := by
          rw [maxL_flat]
          cases ks with
          | nil => simp
          | cons k ks => exact hk k (by simp)
        have := compS_len _ this
        unfold keyL
        simp only [List.length_cons]; omega
      · exact labKs_lim xs ks.tail (fun y hy => h y (by simp [hy])) (fun k hk2 => hk k (List.mem_of_mem_tail hk2)) s h2
theorem lab_lim (x : Tree) : maxL x ≤ 1073741824 → ∀ s ∈ labT x, s.length ≤ 140737488355329 := Tree.ind (Q := fun x => maxL x ≤ 1073741824 → ∀ s ∈ labT x, s.length ≤ 140737488355329) (fun k t ks xs ih hm s hs => by
  have hm0 := hm
  rw [maxL] at hm0
  have hx : ∀ x ∈ xs, ∀ s ∈ labT x, s.length ≤ 140737488355329 := fun x hx => ih x hx (by have := maxLs_mem hx; omega)
  rw [labT] at hs
  split at hs
  · rcases List.mem_append.1 hs with h | h
    · exact labTs_lim xs hx s h
    · rw [List.mem_singleton.1 h]; simp
  · split at hs
    · rcases List.mem_append.1 hs with h | h
      · exact labKs_lim xs ks hx (fun k hk => by have := maxKs_mem hk; omega) s h
      · rw [List.mem_singleton.1 h]; simp
    · rw [List.mem_singleton.1 hs]
      have := compS_len _ hm
      omega) x
theorem Tb.rows {w0 w : World} {B : Nat} {A : Option Addr} {e c : Nat} {ds : List D} {xs : List Value} {sb : List (Nat × Obj)} (hS : SlB e 1 A ds.length c xs sb) (hq : ∀ q ∈ sb, w.heap[q.1]? = some q.2 ∧ B ≤ q.1) (hB : w0.heap.size ≤ B) (hr : RepL (Btw w0 w) w ds xs) : Rep (Btw w0 w) w (.slice ds) [.slice A ds.length c] := by
  refine hS.repOf (fun q h => ⟨(hq q h).1, ?_, lt_of_some (hq q h).1, ?_⟩) hr rfl
  · have := (hq q h).2; omega
  · obtain ⟨cur, he⟩ := hS.typ.2 q h
    exact ⟨cur, e, by rw [(hq q h).1, he]⟩
theorem strs_lits {S : Nat → Prop} {wx : World} : ∀ {q : List Str}, (∀ s ∈ q, s.length ≤ 9223372036854775807) → RepL S wx (q.map strD) (q.map fun s => Value.string (bs s))
  | [], _ => RepL.nil_mk
  | s :: q, h => RepL.cons_mk (Rep.lit_mk (v := .string (bs s)) (h s (by simp))) (strs_lits fun x hx => h x (by simp [hx]))
set_option maxHeartbeats 1000000 in
set_option maxRecDepth 10000 in
theorem from_no (x : Tree) (S : Nat → Prop) (w0 : World) (cs : List Value) (hR : Rep S w0 (treeD x) cs) (hG : Gl w0) (hsz : sizeT x ≤ 256) (hm : maxL x ≤ 1073741824) (hx : rightB x = false) : Calls Tryz.prog 10 #[.agg cs.toArray] w0 (Ret fun v w' => v = .tuple #[.agg #[.slice none 0 0, .slice none 0 0], .int .i64 1] ∧ Same [] w0 w') := by
 have hl : cs.length = 4 := hR.length.trans (size_treeD x)
 have ho := hR.one_
 refine calls_start Tryz.func10 rfl Tryz.ntmps10 (Nat.le_of_ble_eq_true rfl) (args_1 _) ?_
 have hF := FR.start w0 []
 refine c_seq (c_region ?_)
 refine o_box (v := .agg (List.toArray cs)) (cs := (List.toArray cs)) hF rfl rfl ?_
 clear hF; rintro b1 w hb1 hF -
 refine o_alloc (cs := #[.slice (none) (0) (0), .slice (none) (0) (0)]) hF Tryz.zeroValue30 rfl ?_
 clear hF; rintro b2 w hb2 hF -
 refine o_val (x_assign rfl) (o_nil (e_seq (c_seq (c_seq (c_region (o_val (v := .agg (List.toArray cs)) (x_loadS (l := cs) Tryz.isAgg25 Tryz.sizeOf25 rfl hl (hF.cellsAll 1 rfl)) ?_))))))
 refine o_call (ret_eq (v' := .bool false) (right_v x (by omega) _ _ cs (hF.rep hR) (okT_max x (by omega)) (hG.ext hF.same)) (congrArg Value.bool hx)) (x_call1 en_26 rfl rfl) ?_
 rintro _ w ⟨rfl, hE⟩
 replace hF := hF.ext hE
 clear hE
 refine o_val (v := .bool true) (x_not (b := false) rfl) (o_nil (e_seq (c_ift rfl (c_seq (c_region ?_)))))
 refine o_val (w' := w) (v := .agg #[.slice (none) (0) (0), .slice (none) (0) (0)]) (by kernel_rfl) ?_
 refine o_store 0 (l := [.slice (none) (0) (0), .slice (none) (0) (0)]) (cs' := #[.slice (none) (0) (0), .slice (none) (0) (0)]) hF Tryz.sizeOf30 rfl (v := .agg #[.slice (none) (0) (0), .slice (none) (0) (0)]) rfl rfl (by simp [one]) rfl (Nat.le_of_ble_eq_true rfl) rfl ?_
 clear hF; rintro w hF -
 replace hF : FR w0 [] [(b2, .cells #[.slice (none) (0) (0), .slice (none) (0) (0)] 30), (b1, .cells (List.toArray cs) 25)] w := hF
 refine o_val (x_assign rfl) (o_nil (e_seq ?_))
 refine c_ret (e_ret (post_ret (res_ct rfl (l := [.slice (none) (0) (0), .slice (none) (0) (0)]) rfl Tryz.isAgg30 Tryz.sizeOf30 rfl (hF.cellsAll 0 rfl) (v := .int .i64 (1)) rfl) ?_))
 exact ⟨rfl, hF.same⟩
set_option maxHeartbeats 4000000 in
set_option maxRecDepth 10000 in
theorem from_yes (x : Tree) (S : Nat → Prop) (w0 : World) (cs : List Value) (hR : Rep S w0 (treeD x) cs) (hG : Gl w0) (hsz : sizeT x ≤ 256) (hm : maxL x ≤ 1073741824) (hx : rightB x = true) : Calls Tryz.prog 10 #[.agg cs.toArray] w0 (Ret fun v w' => ∃ A c B e, v = .tuple #[.agg #[.slice A (treeL x).length c, .slice B (treeF x).length e], .int .i64 0] ∧ Rep (Btw w0 w') w' (strsD (treeL x)) [.slice A (treeL x).length c] ∧ Rep (Btw w0 w') w' (.slice ((treeF x).map intD)) [.slice B (treeF x).length e] ∧ Same [] w0 w') := by
 have hl : cs.length = 4 := hR.length.trans (size_treeD x)
 have ho := hR.one_
 refine calls_start Tryz.func10 rfl Tryz.ntmps10 (Nat.le_of_ble_eq_true rfl) (args_1 _) ?_
 have hF := FR.start w0 []
 refine c_seq (c_region ?_)
 refine o_box (v := .agg (List.toArray cs)) (cs := (List.toArray cs)) hF rfl rfl ?_
 clear hF; rintro b1 w hb1 hF -
 refine o_alloc (cs := #[.slice (none) (0) (0), .slice (none) (0) (0)]) hF Tryz.zeroValue30 rfl ?_
 clear hF; rintro b2 w hb2 hF -
 refine o_val (x_assign rfl) (o_nil (e_seq (c_seq (c_seq (c_region (o_val (v := .agg (List.toArray cs)) (x_loadS (l := cs) Tryz.isAgg25 Tryz.sizeOf25 rfl hl (hF.cellsAll 1 rfl)) ?_))))))
 refine o_call (ret_eq (v' := .bool true) (right_v x (by omega) _ _ cs (hF.rep hR) (okT_max x (by omega)) (hG.ext hF.same)) (congrArg Value.bool hx)) (x_call1 en_26 rfl rfl) ?_
 rintro _ w ⟨rfl, hE⟩
 replace hF := hF.ext hE
 clear hE
 refine o_val (v := .bool false) (x_not (b := true) rfl) (o_nil (e_seq (c_iff rfl (c_skip (e_seq (c_seq (c_region ?_)))))))
 refine o_alloc (cs := #[.slice (none) (0) (0), .slice (none) (0) (0)]) hF Tryz.zeroValue53 rfl ?_
 clear hF; rintro b3 w hb3 hF -
 refine o_nil (e_seq (c_seq (c_region (o_val (v := .agg (List.toArray cs)) (x_loadS (l := cs) Tryz.isAgg25 Tryz.sizeOf25 rfl hl (hF.cellsAll 2 rfl)) ?_))))
 have lb3 := hF.lt (i := 0) rfl
 have lb2 := hF.lt (i := 1) rfl
 have lb1 := hF.lt (i := 2) rfl
 refine o_call (sortedV_c x (by omega) _ _ cs (hF.rep hR) (okT_max x (by omega)) (hG.ext hF.same)) (x_call1 en_28 rfl rfl) ?_
 rintro _ w ⟨ct, rfl, hRt, hE⟩
 have hlt : ct.length = 4 := hRt.length.trans (size_treeD _)
 have hot := hRt.one_
 have hgr := hE.size
 replace hF := hF.ext hE
 clear hE
 have hTb : Tb w w.heap.size b3 [] [] := ⟨by omega, Nat.le_refl _, none, 0, [], none, 0, [], hF.heap (i := 0) rfl, SlB.nil _ _, SlB.nil _ _, by simp⟩
 have hge3 := hF.ge (i := 0) rfl
 refine o_call (nodes_c (sortedV x) w w.heap.size b3 [] [] ct hTb (hRt.weaken fun b hb _ hw => by rcases mem_Wk2.1 hw with rfl | ⟨h1, h2, -⟩; (have := hb.1; omega); omega) (hG.ext hF.same) (by have := hF.ge (i := 0) rfl; have := hG.size; omega) rfl (sorted_nodes hx) (size_sorted x (by omega)) (Nat.le_trans (maxL_sorted x) hm) (by have := treeL_le hx; unfold treeL at this; simp only [List.length_nil]; omega)) (x_call2 en_27 rfl rfl rfl) ?_
 obtain ⟨B, hBw⟩ : ∃ B, B = w.heap.size := ⟨_, rfl⟩
 rw [← hBw]
 rintro _ w ⟨rfl, hT2, hE⟩
 have hBl : w0.heap.size ≤ B := by have := hF.same.size; omega
 have hb2B : b2 < B := by omega
 replace hF := (hF.drop 1).touch hE (fun b hb => by rcases mem_Wk2.1 hb with rfl | ⟨-, h2, -⟩; (refine ⟨fun h => absurd h (by omega), fun z hz e => ?_⟩; have hd := (List.pairwise_cons.1 hF.desc).1 z hz; exact hd e); (refine ⟨fun h => absurd h (by omega), fun z hz e => ?_⟩; have : z.1 < B := (by rw [hBw]; exact lt_of_some (hF.memHeap (List.mem_cons_of_mem _ hz))); omega))
 simp only [List.nil_append, List.length_nil] at hT2
 obtain ⟨-, -, P1, q1, sl, P2, q2, sf, hh, hL, hN, hrow⟩ := hT2
 clear hE
 refine o_nil (e_seq (c_seq (c_seq (c_region (o_val (v := .pointer (some ⟨b3, 0, none⟩)) (x_fieldAddrO fa_53_0 rfl) (o_val (v := .pointer (some ⟨b3, 0, none⟩)) (x_fieldAddrO fa_30_0 rfl) (o_val (v := .slice (P1) ((treeL x).length) (q1)) (x_load Tryz.isAgg22 rfl (cell_of_heap hh 0)) (o_val (v := .int .i64 (((treeL x).length : Nat))) (x_len_slice Tryz.underlying22 rfl) ?_))))))))
 refine o_val (v := .bool false) (run_false (x_gtr rfl rfl) (by have := treeL_le hx; omega)) ?_
 refine o_nil (e_seq (c_iff rfl (c_skip (e_seq (c_seq (c_region (o_val (v := .pointer (some ⟨b3, 0, none⟩)) (x_fieldAddrO fa_53_0 rfl) (o_val (v := .agg #[.slice (P1) ((treeL x).length) (q1), .slice (P2) ((treeF x).length) (q2)]) (x_loadS (l := [.slice (P1) ((treeL x).length) (q1), .slice (P2) ((treeF x).length) (q2)]) Tryz.isAgg30 Tryz.sizeOf30 rfl rfl (heap_cells hh)) ?_))))))))
 refine o_store 0 (l := [.slice (P1) ((treeL x).length) (q1), .slice (P2) ((treeF x).length) (q2)]) (cs' := #[.slice (P1) ((treeL x).length) (q1), .slice (P2) ((treeF x).length) (q2)]) hF Tryz.sizeOf30 rfl (v := .agg #[.slice (P1) ((treeL x).length) (q1), .slice (P2) ((treeF x).length) (q2)]) rfl rfl (by simp [one]) rfl (Nat.le_of_ble_eq_true rfl) rfl ?_
 clear hF; intro w hF hE
 replace hrow := fun q hq => And.intro ((hE.block q.1 (lt_of_some (hrow q hq).1) (by have := (hrow q hq).2; simp only [List.mem_singleton]; omega)).trans (hrow q hq).1) (hrow q hq).2
 clear hE
 replace hF : FR w0 [] [(b2, .cells #[.slice (P1) ((treeL x).length) (q1), .slice (P2) ((treeF x).length) (q2)] 30), (b1, .cells (List.toArray cs) 25)] w := hF
 refine o_val (x_assign rfl) (o_nil (e_seq ?_))
 refine c_ret (e_ret (post_ret (res_ct rfl (l := [.slice (P1) ((treeL x).length) (q1), .slice (P2) ((treeF x).length) (q2)]) rfl Tryz.isAgg30 Tryz.sizeOf30 rfl (hF.cellsAll 0 rfl) (v := .int .i64 (0)) rfl) ?_))
 refine ⟨P1, q1, P2, q2, rfl, ?_, ?_, hF.same⟩
 have := Tb.rows (w0 := w0) (w := w) (ds := (treeL x).map strD) (by rw [List.length_map]; exact hL) (fun q hq => hrow q (by simp [hq])) hBl (strs_lits (fun s hs => by have := lab_lim (sortedV x) (Nat.le_trans (maxL_sorted x) hm) s hs; omega))
 rw [List.length_map] at this
 exact this
 have := Tb.rows (w0 := w0) (w := w) (ds := (treeF x).map intD) (by rw [List.length_map]; exact hN) (fun q hq => hrow q (by simp [hq])) hBl (ints_lits (fun s hs => by obtain ⟨i, hi, rfl⟩ := List.getElem_of_mem hs; have h1 := (tree_right hx hsz).2.2 i hi hi; have := treeF_len x; have := treeL_le hx; omega))
 rw [List.length_map] at this
 exact this
end Go.Scarf
namespace Go.Scarf
open Go.RowKit Go.Proofs
def betN (x y : Tree) : Int := if (rightB x && rightB y) = true then ((costT (treeL x) (treeF x) (treeL y) (treeF y) : Nat) : Int) else 0
def betE (x y : Tree) : Int := if (rightB x && rightB y) = true then 0 else 1
set_option maxHeartbeats 1000000 in
set_option maxRecDepth 10000 in
theorem between_no1 (x y : Tree) (S S' : Nat → Prop) (w0 : World) (cx cy : List Value) (hxR : Rep S w0 (treeD x) cx) (hyR : Rep S' w0 (treeD y) cy) (hG : Gl w0) (hszx : sizeT x ≤ 256) (hszy : sizeT y ≤ 256) (hmx : maxL x ≤ 1073741824) (hmy : maxL y ≤ 1073741824) (h1 : rightB x = false) : Calls Tryz.prog 11 #[.agg cx.toArray, .agg cy.toArray] w0 (Ret fun v w' => v = .tuple #[.int .i64 0, .int .i64 1] ∧ Same [] w0 w') := by
 have hlcx : cx.length = 4 := hxR.length.trans (size_treeD x)
 have hocx := hxR.one_
 have hlcy : cy.length = 4 := hyR.length.trans (size_treeD y)
 have hocy := hyR.one_
 refine calls_start Tryz.func11 rfl Tryz.ntmps11 (Nat.le_of_ble_eq_true rfl) (args_2 _ _) ?_
 have hF := FR.start w0 []
 refine c_seq (c_region ?_)
 refine o_box (v := .agg (List.toArray cx)) (cs := (List.toArray cx)) hF rfl rfl ?_
 clear hF; rintro b1 w hb1 hF -
 refine o_box (v := .agg (List.toArray cy)) (cs := (List.toArray cy)) hF rfl rfl ?_
 clear hF; rintro b2 w hb2 hF -
 refine o_val (x_assign rfl) (o_val (x_assign rfl) (o_nil (e_seq (c_seq (c_region (o_val (v := .agg (List.toArray cx)) (x_loadS (l := cx) Tryz.isAgg25 Tryz.sizeOf25 rfl hlcx (hF.cellsAll 1 rfl)) ?_))))))
 refine o_call (from_no x _ _ cx (hF.rep hxR) (hG.ext hF.same) hszx hmx h1) (x_call1 en_10 rfl rfl) ?_
 rintro _ w ⟨rfl, hE⟩
 replace hF := hF.ext hE
 clear hE
 refine o_val (x_move rfl) (o_val (x_extract rfl rfl) (o_val (x_extract rfl rfl) ?_))
 refine o_lay (l := [.slice (none) (0) (0), .slice (none) (0) (0)]) hF Tryz.zeroValue30 Tryz.sizeOf30 rfl (v := .agg #[.slice (none) (0) (0), .slice (none) (0) (0)]) rfl rfl (by simp [one]) rfl ?_
 clear hF; rintro b3 w hb3 hF -
 refine o_val (x_assign rfl) (o_nil (e_seq (c_seq (c_seq (c_region (o_val (x_move rfl) (o_val (v := .bool true) (run_true (x_neq rfl rfl) (by decide)) (o_nil (e_seq (c_ift rfl (c_seq (c_region (o_val (x_move rfl) ?_)))))))))))))
 refine o_val (x_assign rfl) (o_val (x_assign rfl) (o_nil (e_seq ?_)))
 refine c_ret (e_ret (post_ret (res_2 (v := .int .i64 (0)) (x := .int .i64 (1)) rfl rfl rfl) ?_))
 exact ⟨rfl, hF.same⟩
set_option maxHeartbeats 1000000 in
set_option maxRecDepth 10000 in
theorem between_no2 (x y : Tree) (S S' : Nat → Prop) (w0 : World) (cx cy : List Value) (hxR : Rep S w0 (treeD x) cx) (hyR : Rep S' w0 (treeD y) cy) (hG : Gl w0) (hszx : sizeT x ≤ 256) (hszy : sizeT y ≤ 256) (hmx : maxL x ≤ 1073741824) (hmy : maxL y ≤ 1073741824) (h1 : rightB x = true) (h2 : rightB y = false) : Calls Tryz.prog 11 #[.agg cx.toArray, .agg cy.toArray] w0 (Ret fun v w' => v = .tuple #[.int .i64 0, .int .i64 1] ∧ Same [] w0 w') := by
 have hlcx : cx.length = 4 := hxR.length.trans (size_treeD x)
 have hocx := hxR.one_
 have hlcy : cy.length = 4 := hyR.length.trans (size_treeD y)
 have hocy := hyR.one_
 refine calls_start Tryz.func11 rfl Tryz.ntmps11 (Nat.le_of_ble_eq_true rfl) (args_2 _ _) ?_
 have hF := FR.start w0 []
 refine c_seq (c_region ?_)
 refine o_box (v := .agg (List.toArray cx)) (cs := (List.toArray cx)) hF rfl rfl ?_
 clear hF; rintro b1 w hb1 hF -
 refine o_box (v := .agg (List.toArray cy)) (cs := (List.toArray cy)) hF rfl rfl ?_
 clear hF; rintro b2 w hb2 hF -
 refine o_val (x_assign rfl) (o_val (x_assign rfl) (o_nil (e_seq (c_seq (c_region (o_val (v := .agg (List.toArray cx)) (x_loadS (l := cx) Tryz.isAgg25 Tryz.sizeOf25 rfl hlcx (hF.cellsAll 1 rfl)) ?_))))))
 refine o_call (from_yes x _ _ cx (hF.rep hxR) (hG.ext hF.same) hszx hmx h1) (x_call1 en_10 rfl rfl) ?_
 rintro _ w ⟨Au, cu, Bu, eu, rfl, hL_, hN_, hE⟩
 have hLu : Rep (fun _ => True) w (strsD (treeL x)) [.slice Au (treeL x).length cu] := hL_.weaken fun _ _ _ => trivial
 have hNu : Rep (fun _ => True) w (.slice ((treeF x).map intD)) [.slice Bu (treeF x).length eu] := hN_.weaken fun _ _ _ => trivial
 replace hF := hF.ext hE
 clear hE hL_ hN_
 refine o_val (x_move rfl) (o_val (x_extract rfl rfl) (o_val (x_extract rfl rfl) ?_))
 refine o_lay (l := [.slice (Au) ((treeL x).length) (cu), .slice (Bu) ((treeF x).length) (eu)]) hF Tryz.zeroValue30 Tryz.sizeOf30 rfl (v := .agg #[.slice (Au) ((treeL x).length) (cu), .slice (Bu) ((treeF x).length) (eu)]) rfl rfl (by simp [one]) rfl ?_
 clear hF; intro b3 w hb3 hF hE
 replace hLu := hLu.ext hE
 replace hNu := hNu.ext hE
 clear hE
 refine o_val (x_assign rfl) (o_nil (e_seq (c_seq (c_seq (c_region (o_val (x_move rfl) (o_val (v := .bool false) (run_false (x_neq rfl rfl) (by decide)) (o_nil (e_seq (c_iff rfl (c_skip (e_seq (c_seq ?_)))))))))))))
 refine c_region (o_val (v := .agg (List.toArray cy)) (x_loadS (l := cy) Tryz.isAgg25 Tryz.sizeOf25 rfl hlcy (hF.cellsAll 1 rfl)) ?_)
 refine o_call (from_no y _ _ cy (hF.rep hyR) (hG.ext hF.same) hszy hmy h2) (x_call1 en_10 rfl rfl) ?_
 rintro _ w ⟨rfl, hE⟩
 replace hF := hF.ext hE
 replace hLu := hLu.ext hE
 replace hNu := hNu.ext hE
 clear hE
 refine o_val (x_move rfl) (o_val (x_extract rfl rfl) (o_val (x_extract rfl rfl) ?_))
 refine o_lay (l := [.slice (none) (0) (0), .slice (none) (0) (0)]) hF Tryz.zeroValue30 Tryz.sizeOf30 rfl (v := .agg #[.slice (none) (0) (0), .slice (none) (0) (0)]) rfl rfl (by simp [one]) rfl ?_
 clear hF; intro b4 w hb4 hF hE
 replace hLu := hLu.ext hE
 replace hNu := hNu.ext hE
 clear hE
 refine o_val (x_assign rfl) (o_nil (e_seq (c_seq (c_seq (c_region (o_val (x_move rfl) (o_val (v := .bool true) (run_true (x_neq rfl rfl) (by decide)) (o_nil (e_seq (c_ift rfl (c_seq (c_region (o_val (x_move rfl) ?_)))))))))))))
 refine o_val (x_assign rfl) (o_val (x_assign rfl) (o_nil (e_seq ?_)))
 refine c_ret (e_ret (post_ret (res_2 (v := .int .i64 (0)) (x := .int .i64 (1)) rfl rfl rfl) ?_))
 exact ⟨rfl, hF.same⟩
set_option maxHeartbeats 1000000 in
set_option maxRecDepth 10000 in
theorem between_yes (x y : Tree) (S S' : Nat → Prop) (w0 : World) (cx cy : List Value) (hxR : Rep S w0 (treeD x) cx) (hyR : Rep S' w0 (treeD y) cy) (hG : Gl w0) (hszx : sizeT x ≤ 256) (hszy : sizeT y ≤ 256) (hmx : maxL x ≤ 1073741824) (hmy : maxL y ≤ 1073741824) (h1 : rightB x = true) (h2 : rightB y = true) : Calls Tryz.prog 11 #[.agg cx.toArray, .agg cy.toArray] w0 (Ret fun v w' => v = .tuple #[.int .i64 ((costT (treeL x) (treeF x) (treeL y) (treeF y) : Nat) : Int), .int .i64 0] ∧ Same [] w0 w') := by
 have hlcx : cx.length = 4 := hxR.length.trans (size_treeD x)
 have hocx := hxR.one_
 have hlcy : cy.length = 4 := hyR.length.trans (size_treeD y)
 have hocy := hyR.one_
 refine calls_start Tryz.func11 rfl Tryz.ntmps11 (Nat.le_of_ble_eq_true rfl) (args_2 _ _) ?_
 have hF := FR.start w0 []
 refine c_seq (c_region ?_)
 refine o_box (v := .agg (List.toArray cx)) (cs := (List.toArray cx)) hF rfl rfl ?_
 clear hF; rintro b1 w hb1 hF -
 refine o_box (v := .agg (List.toArray cy)) (cs := (List.toArray cy)) hF rfl rfl ?_
 clear hF; rintro b2 w hb2 hF -
 refine o_val (x_assign rfl) (o_val (x_assign rfl) (o_nil (e_seq (c_seq (c_region (o_val (v := .agg (List.toArray cx)) (x_loadS (l := cx) Tryz.isAgg25 Tryz.sizeOf25 rfl hlcx (hF.cellsAll 1 rfl)) ?_))))))
 refine o_call (from_yes x _ _ cx (hF.rep hxR) (hG.ext hF.same) hszx hmx h1) (x_call1 en_10 rfl rfl) ?_
 rintro _ w ⟨Au, cu, Bu, eu, rfl, hL_, hN_, hE⟩
 have hLu : Rep (fun _ => True) w (strsD (treeL x)) [.slice Au (treeL x).length cu] := hL_.weaken fun _ _ _ => trivial
 have hNu : Rep (fun _ => True) w (.slice ((treeF x).map intD)) [.slice Bu (treeF x).length eu] := hN_.weaken fun _ _ _ => trivial
 replace hF := hF.ext hE
 clear hE hL_ hN_
 refine o_val (x_move rfl) (o_val (x_extract rfl rfl) (o_val (x_extract rfl rfl) ?_))
 refine o_lay (l := [.slice (Au) ((treeL x).length) (cu), .slice (Bu) ((treeF x).length) (eu)]) hF Tryz.zeroValue30 Tryz.sizeOf30 rfl (v := .agg #[.slice (Au) ((treeL x).length) (cu), .slice (Bu) ((treeF x).length) (eu)]) rfl rfl (by simp [one]) rfl ?_
 clear hF; intro b3 w hb3 hF hE
 replace hLu := hLu.ext hE
 replace hNu := hNu.ext hE
 clear hE
 refine o_val (x_assign rfl) (o_nil (e_seq (c_seq (c_seq (c_region (o_val (x_move rfl) (o_val (v := .bool false) (run_false (x_neq rfl rfl) (by decide)) (o_nil (e_seq (c_iff rfl (c_skip (e_seq (c_seq ?_)))))))))))))
 refine c_region (o_val (v := .agg (List.toArray cy)) (x_loadS (l := cy) Tryz.isAgg25 Tryz.sizeOf25 rfl hlcy (hF.cellsAll 1 rfl)) ?_)
 refine o_call (from_yes y _ _ cy (hF.rep hyR) (hG.ext hF.same) hszy hmy h2) (x_call1 en_10 rfl rfl) ?_
 rintro _ w ⟨Av, cv, Bv, ev, rfl, hL_, hN_, hE⟩
 have hLv : Rep (fun _ => True) w (strsD (treeL y)) [.slice Av (treeL y).length cv] := hL_.weaken fun _ _ _ => trivial
 have hNv : Rep (fun _ => True) w (.slice ((treeF y).map intD)) [.slice Bv (treeF y).length ev] := hN_.weaken fun _ _ _ => trivial
 replace hLu := hLu.ext hE
 replace hNu := hNu.ext hE
 replace hF := hF.ext hE
 clear hE hL_ hN_
 refine o_val (x_move rfl) (o_val (x_extract rfl rfl) (o_val (x_extract rfl rfl) ?_))
 refine o_lay (l := [.slice (Av) ((treeL y).length) (cv), .slice (Bv) ((treeF y).length) (ev)]) hF Tryz.zeroValue30 Tryz.sizeOf30 rfl (v := .agg #[.slice (Av) ((treeL y).length) (cv), .slice (Bv) ((treeF y).length) (ev)]) rfl rfl (by simp [one]) rfl ?_
 clear hF; intro b4 w hb4 hF hE
 replace hLu := hLu.ext hE
 replace hNu := hNu.ext hE
 replace hLv := hLv.ext hE
 replace hNv := hNv.ext hE
 clear hE
 refine o_val (x_assign rfl) (o_nil (e_seq (c_seq (c_seq (c_region (o_val (x_move rfl) (o_val (v := .bool false) (run_false (x_neq rfl rfl) (by decide)) (o_nil (e_seq (c_iff rfl (c_skip (e_seq (c_seq ?_)))))))))))))
 refine c_region (o_val (v := .agg #[.slice (Au) ((treeL x).length) (cu), .slice (Bu) ((treeF x).length) (eu)]) (x_loadS (l := [.slice (Au) ((treeL x).length) (cu), .slice (Bu) ((treeF x).length) (eu)]) Tryz.isAgg30 Tryz.sizeOf30 rfl rfl (hF.cellsAll 1 rfl)) (o_val (v := .agg #[.slice (Av) ((treeL y).length) (cv), .slice (Bv) ((treeF y).length) (ev)]) (x_loadS (l := [.slice (Av) ((treeL y).length) (cv), .slice (Bv) ((treeF y).length) (ev)]) Tryz.isAgg30 Tryz.sizeOf30 rfl rfl (hF.cellsAll 0 rfl)) ?_))
 refine o_call (cost_yes _ _ _ (treeL x) (treeF x) Au Bu cu eu hLu hNu (treeL y) (treeF y) Av Bv cv ev hLv hNv (tree_right h1 hszx) (tree_right h2 hszy)) (x_call2 en_15 rfl rfl rfl) ?_
 rintro _ w ⟨rfl, hE⟩
 replace hF := hF.ext hE
 replace hLu := hLu.ext hE
 replace hNu := hNu.ext hE
 replace hLv := hLv.ext hE
 replace hNv := hNv.ext hE
 clear hE
 refine o_val (x_extract rfl rfl) (o_val (x_extract rfl rfl) (o_val (x_assign rfl) (o_val (x_assign rfl) (o_nil (e_seq ?_)))))
 refine c_ret (e_ret (post_ret (res_2 (v := .int .i64 ((costT (treeL x) (treeF x) (treeL y) (treeF y) : Nat))) (x := .int .i64 (0)) rfl rfl rfl) ?_))
 exact ⟨rfl, hF.same⟩
theorem between_c (x y : Tree) (S S' : Nat → Prop) (w0 : World) (cx cy : List Value) (hxR : Rep S w0 (treeD x) cx) (hyR : Rep S' w0 (treeD y) cy) (hG : Gl w0) (hszx : sizeT x ≤ 256) (hszy : sizeT y ≤ 256) (hmx : maxL x ≤ 1073741824) (hmy : maxL y ≤ 1073741824) : Calls Tryz.prog 11 #[.agg cx.toArray, .agg cy.toArray] w0 (Ret fun v w' => v = .tuple #[.int .i64 (betN x y), .int .i64 (betE x y)] ∧ Same [] w0 w') := by
  by_cases h1 : rightB x = true
  · by_cases h2 : rightB y = true
    · rw [betN, betE, h1, h2]; exact between_yes x y S S' w0 cx cy hxR hyR hG hszx hszy hmx hmy h1 h2
    · rw [betN, betE, h1, Bool.eq_false_iff.2 h2]; exact between_no2 x y S S' w0 cx cy hxR hyR hG hszx hszy hmx hmy h1 (Bool.eq_false_iff.2 h2)
  · rw [betN, betE, Bool.eq_false_iff.2 h1]; exact between_no1 x y S S' w0 cx cy hxR hyR hG hszx hszy hmx hmy (Bool.eq_false_iff.2 h1)
end Go.Scarf
