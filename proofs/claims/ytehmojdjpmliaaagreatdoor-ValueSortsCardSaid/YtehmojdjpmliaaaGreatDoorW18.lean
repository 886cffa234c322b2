/- A part of the proof. -/
import Derived.Test.YtehmojdjpmliaaaGreatDoorW17
set_option linter.all false
namespace Go.Scarf
open Go.RowKit Go.Proofs
def zeroT : Tree := .node 0 [] [] []
theorem zero_rep (S : Nat → Prop) (w : World) : Rep S w (treeD zeroT) [.int .i64 0, .string (bs []), .slice none 0 0, .slice none 0 0] :=
  Rep.tree_mk ⟨by omega, by omega⟩ (by simp) (Rep.nil_slice 0 (by omega) none) (Rep.nil_slice 0 (by omega) none)
def sortedV (x : Tree) : Tree := if openB x then sortT x else zeroT
def copyV (x : Tree) : Tree := if openB x then x else zeroT
def getV (x : Tree) (key : Str) : Tree × Bool := if openB x = true ∧ x.kind = 6 then match lookT x.keys x.items key with | some y => (y, true) | none => (zeroT, false) else (zeroT, false)
def compareV (x y : Tree) : Int := if openB x then if openB y then orderT (sortT x) (sortT y) else 1 else if openB y then -1 else 0
theorem nodeB_keys {k : Int} {t : Str} {ks : List Str} {xs : List Tree} (h : nodeB (.node k t ks xs) = true) : ks.length ≤ xs.length := by
  by_cases h6 : k = 6
  · subst h6; have := (node6 h).2; omega
  · have : ks = [] := by
      simp only [nodeB] at h
      by_cases h5 : k = 5
      · subst h5; simp at h; exact h.1
      · rw [if_neg h5, if_neg h6] at h
        cases ks with
        | nil => rfl
        | cons a l => simp at h
    subst this; simp
theorem keys_lt : ∀ x : Tree, allT nodeB x = true → keysT x + 1 ≤ sizeT x := fun x => Tree.ind (Q := fun x => allT nodeB x = true → keysT x + 1 ≤ sizeT x) (fun k t ks xs ih h => by
  obtain ⟨h1, h2⟩ := allT_node h
  have h3 := nodeB_keys h1
  have h7 : ∀ ys : List Tree, (∀ y ∈ ys, y ∈ xs) → ys.length + keysTs ys ≤ sizeTs ys := by
    intro ys
    induction ys with
    | nil => intro _; simp [keysTs, sizeTs]
    | cons y ys ihy =>
      intro hm
      have h5 := ihy (fun z hz => hm z (by simp [hz]))
      have h9 := ih y (hm y (by simp)) (h2 y (hm y (by simp)))
      simp only [keysTs, sizeTs, List.length_cons]; omega
  have := h7 xs (fun _ h => h)
  rw [keysT, sizeT]
  omega) x
theorem lookT_mem {key : Str} {y : Tree} : ∀ {ks : List Str} {xs : List Tree}, lookT ks xs key = some y → y ∈ xs
  | [], xs, h => by cases xs <;> cases h
  | k :: ks, [], h => by cases h
  | k :: ks, x :: xs, h => by
    rw [lookT] at h
    by_cases he : k = key
    · rw [if_pos he] at h; injection h with h; simp [h]
    · rw [if_neg he] at h; simp [lookT_mem h]
theorem okTs_of : ∀ {xs : List Tree}, (∀ x ∈ xs, okT x) → okTs xs
  | [], _ => by rw [okTs]; trivial
  | x :: xs, h => by rw [okTs]; exact ⟨h x (by simp), okTs_of (fun y hy => h y (by simp [hy]))⟩
theorem okT_sort (x : Tree) : okT x → okT (sortT x) := Tree.ind (Q := fun x => okT x → okT (sortT x)) (fun k t ks xs ih h => by
  rw [okT] at h
  have hs : ∀ y ∈ sortTs xs, okT y := by
    intro y hy
    rw [sortTs_eq] at hy
    obtain ⟨z, hz, rfl⟩ := List.mem_map.1 hy
    exact ih z hz (okTs_mem h.2.2 z hz)
  rw [sortT]
  split
  · rw [okT]
    refine ⟨h.1, fun k hk => h.2.1 k (sortS_mem.1 hk), okTs_of fun y hy => ?_⟩
    obtain ⟨key, _, rfl⟩ := List.mem_map.1 hy
    cases hl : lookT ks (sortTs xs) key with
    | none => simp only [Option.getD_none]; rw [okT]; simp [okTs]
    | some z => exact hs z (lookT_mem hl)
  · rw [okT]
    exact ⟨h.1, by simp, okTs_of hs⟩) x
theorem open_size {x : Tree} (h : openB x = true) : sizeT x ≤ 4096 := by
  unfold openB sizedB at h; simp only [Bool.and_eq_true, decide_eq_true_eq] at h; exact h.1.1
set_option maxHeartbeats 1000000 in
set_option maxRecDepth 10000 in
theorem sortedV_c (x : Tree) (hsz : sizeT x ≤ 1000000000) (S : Nat → Prop) (w0 : World) (cs : List Value) (hR : Rep S w0 (treeD x) cs) (hk : okT x) (hG : Gl w0) : NewC 26 #[.agg cs.toArray] (treeD (sortedV x)) w0 := by
  have hl : cs.length = 4 := hR.length.trans (size_treeD x)
  have ho := hR.one_
  refine calls_start Tryz.func26 rfl Tryz.ntmps26 (Nat.le_of_ble_eq_true rfl) (args_1 _) ?_
  have hF := FR.start w0 []
  refine c_seq ?_
  refine c_region ?_
  refine o_box (v := .agg (List.toArray cs)) (cs := (List.toArray cs)) hF rfl rfl ?_
  clear hF; intro b1 w hb1 hF hE
  clear hE
  refine o_alloc (cs := #[.int .i64 (0), .string (bs ([])), .slice (none) (0) (0), .slice (none) (0) (0)]) hF Tryz.zeroValue25 rfl ?_
  clear hF; intro b2 w hb2 hF hE
  clear hE
  refine o_nil ?_
  refine e_seq ?_
  refine c_seq ?_
  refine c_seq ?_
  refine c_region ?_
  refine o_val (v := .agg (List.toArray cs)) (x_loadS (l := cs) Tryz.isAgg25 Tryz.sizeOf25 rfl hl (hF.cellsAll 1 rfl)) ?_
  refine o_call (open_v x hsz S _ cs (hF.rep hR) hk (hG.ext hF.same)) (x_call1 en_33 rfl rfl) ?_
  rintro _ w ⟨rfl, hE⟩
  replace hF := hF.ext hE
  clear hE
  refine o_val (v := .bool (!(openB x))) (x_not rfl) ?_
  refine o_nil ?_
  refine e_seq ?_
  refine c_split (d := 5) (b := !(openB x)) rfl (fun hc0 => ?_) (fun hc0 => ?_)
  ·
    refine c_ift rfl ?_
    refine c_seq ?_
    refine c_region ?_
    refine o_val (w' := w) (v := .agg #[.int .i64 (0), .string (bs ([])), .slice (none) (0) (0), .slice (none) (0) (0)]) (by kernel_rfl) ?_
    refine o_store 0 (l := [.int .i64 (0), .string (bs ([])), .slice (none) (0) (0), .slice (none) (0) (0)]) (cs' := #[.int .i64 (0), .string (bs ([])), .slice (none) (0) (0), .slice (none) (0) (0)]) hF Tryz.sizeOf25 rfl (v := .agg #[.int .i64 (0), .string (bs ([])), .slice (none) (0) (0), .slice (none) (0) (0)]) rfl rfl (by simp [one]) rfl (Nat.le_of_ble_eq_true rfl) rfl ?_
    clear hF; intro w hF hE
    clear hE
    replace hF : FR w0 [] [(b2, .cells #[.int .i64 (0), .string (bs ([])), .slice (none) (0) (0), .slice (none) (0) (0)] 25), (b1, .cells (List.toArray cs) 25)] w := hF
    refine o_nil ?_
    refine e_seq ?_
    refine c_ret (e_ret (post_ret (res_c rfl (l := [.int .i64 (0), .string (bs ([])), .slice (none) (0) (0), .slice (none) (0) (0)]) rfl Tryz.isAgg25 Tryz.sizeOf25 rfl (hF.cellsAll 0 rfl)) ?_))
    have ho_ : openB x = false := by simpa using hc0
    refine ⟨_, rfl, ?_, hF.same⟩
    rw [sortedV, ho_]
    exact zero_rep _ _
  ·
    refine c_iff rfl ?_
    refine c_skip ?_
    refine e_seq ?_
    refine c_seq ?_
    refine c_region ?_
    refine o_val (v := .agg (List.toArray cs)) (x_loadS (l := cs) Tryz.isAgg25 Tryz.sizeOf25 rfl hl (hF.cellsAll 1 rfl)) ?_
    refine o_call (sorted_c x S _ cs (hF.rep hR) hk (open_all (by simpa using hc0)) hsz) (x_call1 en_55 rfl rfl) ?_
    rintro _ w ⟨ct, rfl, hRt, hE⟩
    have hlct : ct.length = 4 := hRt.length.trans (size_treeD _)
    have hoct := hRt.one_
    have hXX := RX.made (ids := [b2, b1]) hF.same.size (fun x hx => hF.lt_ids (by grind)) hRt
    replace hF := hF.ext hE
    clear hE hRt
    refine o_store 0 (l := ct) (cs' := (List.toArray ct)) hF (by rw [hlct]; exact Tryz.sizeOf25) rfl (v := .agg (List.toArray ct)) rfl rfl (hoct) rfl (by rw [hlct]; exact Nat.le_of_ble_eq_true rfl) (putA_all (by rw [hlct]; rfl)) ?_
    clear hF; intro w hF hE
    replace hXX := hXX.store hE (by grind)
    clear hE
    replace hF : FR w0 [] [(b2, .cells (List.toArray ct) 25), (b1, .cells (List.toArray cs) 25)] w := hF
    refine o_nil ?_
    refine e_seq ?_
    refine c_ret (e_ret (post_ret (res_c rfl (l := ct) rfl Tryz.isAgg25 Tryz.sizeOf25 hlct (hF.cellsAll 0 rfl)) ?_))
    have ho_ : openB x = true := by simpa using hc0
    refine ⟨_, rfl, ?_, hF.same⟩
    rw [sortedV, ho_]
    exact hXX.done
set_option maxHeartbeats 1000000 in
set_option maxRecDepth 10000 in
theorem copyV_c (x : Tree) (hsz : sizeT x ≤ 1000000000) (S : Nat → Prop) (w0 : World) (cs : List Value) (hR : Rep S w0 (treeD x) cs) (hk : okT x) (hG : Gl w0) : NewC 44 #[.agg cs.toArray] (treeD (copyV x)) w0 := by
  have hl : cs.length = 4 := hR.length.trans (size_treeD x)
  have ho := hR.one_
  refine calls_start Tryz.func44 rfl Tryz.ntmps44 (Nat.le_of_ble_eq_true rfl) (args_1 _) ?_
  have hF := FR.start w0 []
  refine c_seq ?_
  refine c_region ?_
  refine o_box (v := .agg (List.toArray cs)) (cs := (List.toArray cs)) hF rfl rfl ?_
  clear hF; intro b1 w hb1 hF hE
  clear hE
  refine o_alloc (cs := #[.int .i64 (0), .string (bs ([])), .slice (none) (0) (0), .slice (none) (0) (0)]) hF Tryz.zeroValue25 rfl ?_
  clear hF; intro b2 w hb2 hF hE
  clear hE
  refine o_nil ?_
  refine e_seq ?_
  refine c_seq ?_
  refine c_seq ?_
  refine c_region ?_
  refine o_val (v := .agg (List.toArray cs)) (x_loadS (l := cs) Tryz.isAgg25 Tryz.sizeOf25 rfl hl (hF.cellsAll 1 rfl)) ?_
  refine o_call (open_v x hsz S _ cs (hF.rep hR) hk (hG.ext hF.same)) (x_call1 en_33 rfl rfl) ?_
  rintro _ w ⟨rfl, hE⟩
  replace hF := hF.ext hE
  clear hE
  refine o_val (v := .bool (!(openB x))) (x_not rfl) ?_
  refine o_nil ?_
  refine e_seq ?_
  refine c_split (d := 5) (b := !(openB x)) rfl (fun hc0 => ?_) (fun hc0 => ?_)
  ·
    refine c_ift rfl ?_
    refine c_seq ?_
    refine c_region ?_
    refine o_val (w' := w) (v := .agg #[.int .i64 (0), .string (bs ([])), .slice (none) (0) (0), .slice (none) (0) (0)]) (by kernel_rfl) ?_
    refine o_store 0 (l := [.int .i64 (0), .string (bs ([])), .slice (none) (0) (0), .slice (none) (0) (0)]) (cs' := #[.int .i64 (0), .string (bs ([])), .slice (none) (0) (0), .slice (none) (0) (0)]) hF Tryz.sizeOf25 rfl (v := .agg #[.int .i64 (0), .string (bs ([])), .slice (none) (0) (0), .slice (none) (0) (0)]) rfl rfl (by simp [one]) rfl (Nat.le_of_ble_eq_true rfl) rfl ?_
    clear hF; intro w hF hE
    clear hE
    replace hF : FR w0 [] [(b2, .cells #[.int .i64 (0), .string (bs ([])), .slice (none) (0) (0), .slice (none) (0) (0)] 25), (b1, .cells (List.toArray cs) 25)] w := hF
    refine o_nil ?_
    refine e_seq ?_
    refine c_ret (e_ret (post_ret (res_c rfl (l := [.int .i64 (0), .string (bs ([])), .slice (none) (0) (0), .slice (none) (0) (0)]) rfl Tryz.isAgg25 Tryz.sizeOf25 rfl (hF.cellsAll 0 rfl)) ?_))
    have ho_ : openB x = false := by simpa using hc0
    refine ⟨_, rfl, ?_, hF.same⟩
    rw [copyV, ho_]
    exact zero_rep _ _
  ·
    refine c_iff rfl ?_
    refine c_skip ?_
    refine e_seq ?_
    refine c_seq ?_
    refine c_region ?_
    refine o_val (v := .agg (List.toArray cs)) (x_loadS (l := cs) Tryz.isAgg25 Tryz.sizeOf25 rfl hl (hF.cellsAll 1 rfl)) ?_
    refine o_call (clone_c x S _ cs (hF.rep hR) hsz (by have := keys_lt x (open_all (by simpa using hc0)); omega)) (x_call1 en_57 rfl rfl) ?_
    rintro _ w ⟨ct, rfl, hRt, hE⟩
    have hlct : ct.length = 4 := hRt.length.trans (size_treeD _)
    have hoct := hRt.one_
    have hXX := RX.made (ids := [b2, b1]) hF.same.size (fun x hx => hF.lt_ids (by grind)) hRt
    replace hF := hF.ext hE
    clear hE hRt
    refine o_store 0 (l := ct) (cs' := (List.toArray ct)) hF (by rw [hlct]; exact Tryz.sizeOf25) rfl (v := .agg (List.toArray ct)) rfl rfl (hoct) rfl (by rw [hlct]; exact Nat.le_of_ble_eq_true rfl) (putA_all (by rw [hlct]; rfl)) ?_
    clear hF; intro w hF hE
    replace hXX := hXX.store hE (by grind)
    clear hE
    replace hF : FR w0 [] [(b2, .cells (List.toArray ct) 25), (b1, .cells (List.toArray cs) 25)] w := hF
    refine o_nil ?_
    refine e_seq ?_
    refine c_ret (e_ret (post_ret (res_c rfl (l := ct) rfl Tryz.isAgg25 Tryz.sizeOf25 hlct (hF.cellsAll 0 rfl)) ?_))
    have ho_ : openB x = true := by simpa using hc0
    refine ⟨_, rfl, ?_, hF.same⟩
    rw [copyV, ho_]
    exact hXX.done
set_option maxHeartbeats 1000000 in
set_option maxRecDepth 10000 in
theorem getV_c (k : Int) (t : Str) (ks : List Str) (xs : List Tree) (key : Str) (hsz : sizeT (.node k t ks xs) ≤ 1000000000) (S : Nat → Prop) (w0 : World) (cs : List Value) (hR : Rep S w0 (treeD (.node k t ks xs)) cs) (hk : okT (.node k t ks xs)) (hG : Gl w0) : Calls Tryz.prog 28 #[.agg cs.toArray, .string (bs key)] w0 (Ret fun v w' => ∃ ct : List Value, v = .tuple #[.agg ct.toArray, .bool (getV (.node k t ks xs) key).2] ∧ Rep (Btw w0 w') w' (treeD (getV (.node k t ks xs) key).1) ct ∧ Same [] w0 w') := by
  replace hR := hR.old
  obtain ⟨A, c, B, e, rfl, -, -, hK, hX⟩ := hR.tree_inv
  refine calls_start Tryz.func28 rfl Tryz.ntmps28 (Nat.le_of_ble_eq_true rfl) (args_2 _ _) ?_
  have hF := FR.start w0 []
  refine c_seq ?_
  refine c_region ?_
  refine o_box (v := .agg #[.int .i64 (k), .string (bs (t)), .slice (A) (ks.length) (c), .slice (B) (xs.length) (e)]) (cs := #[.int .i64 (k), .string (bs (t)), .slice (A) (ks.length) (c), .slice (B) (xs.length) (e)]) hF rfl rfl ?_
  clear hF; intro b1 w hb1 hF hE
  clear hE
  refine o_alloc (cs := #[.int .i64 (0), .string (bs ([])), .slice (none) (0) (0), .slice (none) (0) (0)]) hF Tryz.zeroValue25 rfl ?_
  clear hF; intro b2 w hb2 hF hE
  clear hE
  refine o_val (v := .bool false) (x_assign rfl) ?_
  refine o_nil ?_
  refine e_seq ?_
  refine c_seq ?_
  refine c_seq ?_
  refine c_region ?_
  refine o_val (v := .agg #[.int .i64 (k), .string (bs (t)), .slice (A) (ks.length) (c), .slice (B) (xs.length) (e)]) (x_loadS (l := [.int .i64 (k), .string (bs (t)), .slice (A) (ks.length) (c), .slice (B) (xs.length) (e)]) Tryz.isAgg25 Tryz.sizeOf25 rfl rfl (hF.cellsAll 1 rfl)) ?_
  refine o_call (open_v (.node k t ks xs) hsz _ _ _ (hF.rep hR) hk (hG.ext hF.same)) (x_call1 en_33 rfl rfl) ?_
  rintro _ w ⟨rfl, hE⟩
  replace hF := hF.ext hE
  clear hE
  refine o_val (v := .bool (!(openB (.node k t ks xs)))) (x_not rfl) ?_
  refine o_val (v := .bool (!(openB (.node k t ks xs)))) (x_move rfl) ?_
  refine o_split (d := 11) (b := !(openB (.node k t ks xs))) rfl (fun hg0 => ?_) (fun hg0 => ?_)
  ·
    refine o_off ?_
    refine o_off ?_
    refine o_off ?_
    refine o_val (v := .bool true) (x_pickt rfl rfl) ?_
    refine o_nil ?_
    refine e_seq ?_
    refine c_ift rfl ?_
    refine c_seq ?_
    refine c_region ?_
    refine o_val (w' := w) (v := .agg #[.int .i64 (0), .string (bs ([])), .slice (none) (0) (0), .slice (none) (0) (0)]) (by kernel_rfl) ?_
    refine o_store 0 (l := [.int .i64 (0), .string (bs ([])), .slice (none) (0) (0), .slice (none) (0) (0)]) (cs' := #[.int .i64 (0), .string (bs ([])), .slice (none) (0) (0), .slice (none) (0) (0)]) hF Tryz.sizeOf25 rfl (v := .agg #[.int .i64 (0), .string (bs ([])), .slice (none) (0) (0), .slice (none) (0) (0)]) rfl rfl (by simp [one]) rfl (Nat.le_of_ble_eq_true rfl) rfl ?_
    clear hF; intro w hF hE
    clear hE
    replace hF : FR w0 [] [(b2, .cells #[.int .i64 (0), .string (bs ([])), .slice (none) (0) (0), .slice (none) (0) (0)] 25), (b1, .cells #[.int .i64 (k), .string (bs (t)), .slice (A) (ks.length) (c), .slice (B) (xs.length) (e)] 25)] w := hF
    refine o_val (v := .bool false) (x_assign rfl) ?_
    refine o_nil ?_
    refine e_seq ?_
    refine c_ret (e_ret (post_ret (res_ct rfl (l := [.int .i64 (0), .string (bs ([])), .slice (none) (0) (0), .slice (none) (0) (0)]) rfl Tryz.isAgg25 Tryz.sizeOf25 rfl (hF.cellsAll 0 rfl) (v := .bool false) rfl) ?_))
    have hg : getV (.node k t ks xs) key = (zeroT, false) := by rw [getV, if_neg]; rintro ⟨h1, h2⟩; rw [Tree.kind] at h2; simp_all
    refine ⟨_, by rw [hg], ?_, hF.same⟩
    rw [hg]
    exact zero_rep _ _
  ·
    refine o_val (v := .pointer (some ⟨b1, 0, none⟩)) (x_fieldAddrO fa_25_0 rfl) ?_
    refine o_val (v := .int .i64 (k)) (x_load Tryz.isAgg3 rfl (hF.cell 1 rfl rfl)) ?_
    refine o_val (v := .bool (decide ((k : Int) ≠ (6 : Int)))) (x_neq rfl rfl) ?_
    refine o_val (v := .bool (decide ((k : Int) ≠ (6 : Int)))) (x_pickf rfl rfl) ?_
    refine o_nil ?_
    refine e_seq ?_
    refine c_splitd (d := 15) (p := (k : Int) ≠ (6 : Int)) rfl (fun hc0 => ?_) (fun hc0 => ?_)
    ·
      refine c_ift rfl ?_
      refine c_seq ?_
      refine c_region ?_
      refine o_val (w' := w) (v := .agg #[.int .i64 (0), .string (bs ([])), .slice (none) (0) (0), .slice (none) (0) (0)]) (by kernel_rfl) ?_
      refine o_store 0 (l := [.int .i64 (0), .string (bs ([])), .slice (none) (0) (0), .slice (none) (0) (0)]) (cs' := #[.int .i64 (0), .string (bs ([])), .slice (none) (0) (0), .slice (none) (0) (0)]) hF Tryz.sizeOf25 rfl (v := .agg #[.int .i64 (0), .string (bs ([])), .slice (none) (0) (0), .slice (none) (0) (0)]) rfl rfl (by simp [one]) rfl (Nat.le_of_ble_eq_true rfl) rfl ?_
      clear hF; intro w hF hE
      clear hE
      replace hF : FR w0 [] [(b2, .cells #[.int .i64 (0), .string (bs ([])), .slice (none) (0) (0), .slice (none) (0) (0)] 25), (b1, .cells #[.int .i64 (k), .string (bs (t)), .slice (A) (ks.length) (c), .slice (B) (xs.length) (e)] 25)] w := hF
      refine o_val (v := .bool false) (x_assign rfl) ?_
      refine o_nil ?_
      refine e_seq ?_
      refine c_ret (e_ret (post_ret (res_ct rfl (l := [.int .i64 (0), .string (bs ([])), .slice (none) (0) (0), .slice (none) (0) (0)]) rfl Tryz.isAgg25 Tryz.sizeOf25 rfl (hF.cellsAll 0 rfl) (v := .bool false) rfl) ?_))
      have hg : getV (.node k t ks xs) key = (zeroT, false) := by rw [getV, if_neg]; rintro ⟨h1, h2⟩; rw [Tree.kind] at h2; simp_all
      refine ⟨_, by rw [hg], ?_, hF.same⟩
      rw [hg]
      exact zero_rep _ _
    ·
      refine c_iff rfl ?_
      refine c_skip ?_
      refine e_seq ?_
      refine c_seq ?_
      refine c_region ?_
      refine o_val (v := .agg #[.int .i64 (k), .string (bs (t)), .slice (A) (ks.length) (c), .slice (B) (xs.length) (e)]) (x_loadS (l := [.int .i64 (k), .string (bs (t)), .slice (A) (ks.length) (c), .slice (B) (xs.length) (e)]) Tryz.isAgg25 Tryz.sizeOf25 rfl rfl (hF.cellsAll 1 rfl)) ?_
      have ho_ : openB (.node k t ks xs) = true := by simp_all
      have k6 : k = 6 := by simp_all
      have hnx := allT_node (open_all ho_)
      refine o_call (members_c k t ks xs (node6 (k6 ▸ hnx.1)).1 (node6 (k6 ▸ hnx.1)).2 _ _ _ (hF.rep hR)) (x_call1 en_56 rfl rfl) ?_
      rintro _ w ⟨m1, l1, rfl, hge, hm1, hk1, hr1, hE⟩
      replace hF := hF.cons_ext hE hm1 hge
      replace hr1 := hr1.back hF.same
      clear hE hm1 hge
      refine o_val (v := .string (bs (key))) (x_move rfl) ?_
      rcases lookM_tree key hk1 hr1 with ⟨hlk, hlt⟩ | ⟨cy, y, hlk, hlt, hym, hry⟩
      ·
        have hry := zero_rep S w
        have hkz : keysT zeroT ≤ 8796093022208 := by decide
        have hsz_ : sizeT zeroT ≤ 1000000000 := by decide
        refine o_val (v := .tuple #[.agg #[.int .i64 (0), .string (bs ([])), .slice (none) (0) (0), .slice (none) (0) (0)], .bool false]) (x_lookup2E Tryz.underlying58 Tryz.underlying9 Tryz.zeroValue25 rfl rfl (hF.heap (i := 0) rfl) (by rw [hlk]; rfl) (by rw [hlk]; rfl)) ?_
        refine o_val (v := .tuple #[.agg #[.int .i64 (0), .string (bs ([])), .slice (none) (0) (0), .slice (none) (0) (0)], .bool false]) (x_move rfl) ?_
        refine o_val (v := .agg #[.int .i64 (0), .string (bs ([])), .slice (none) (0) (0), .slice (none) (0) (0)]) (x_extract rfl rfl) ?_
        refine o_val (v := .bool false) (x_extract rfl rfl) ?_
        refine o_lay (l := [.int .i64 (0), .string (bs ([])), .slice (none) (0) (0), .slice (none) (0) (0)]) hF Tryz.zeroValue25 Tryz.sizeOf25 rfl (v := .agg #[.int .i64 (0), .string (bs ([])), .slice (none) (0) (0), .slice (none) (0) (0)]) rfl rfl (by simp [one]) rfl ?_
        clear hF; intro b3 w hb3 hF hE
        clear hE
        refine o_val (v := .bool false) (x_assign rfl) ?_
        refine o_nil ?_
        refine e_seq ?_
        refine c_seq ?_
        refine c_region ?_
        refine o_val (v := .agg #[.int .i64 (0), .string (bs ([])), .slice (none) (0) (0), .slice (none) (0) (0)]) (x_loadS (l := [.int .i64 (0), .string (bs ([])), .slice (none) (0) (0), .slice (none) (0) (0)]) Tryz.isAgg25 Tryz.sizeOf25 rfl rfl (hF.cellsAll 0 rfl)) ?_
        refine o_call (clone_c zeroT S _ _ (zero_rep S _) hsz_ hkz) (x_call1 en_57 rfl rfl) ?_
        rintro _ w ⟨ct, rfl, hRt, hE⟩
        have hlct : ct.length = 4 := hRt.length.trans (size_treeD _)
        have hoct := hRt.one_
        have hXX := RX.made (ids := [b1, b2]) hF.same.size (fun x hx => hF.lt_ids (by grind)) hRt
        replace hF := hF.ext hE
        clear hE hRt
        refine o_val (v := .bool false) (x_move rfl) ?_
        refine o_store 2 (l := ct) (cs' := (List.toArray ct)) hF (by rw [hlct]; exact Tryz.sizeOf25) rfl (v := .agg (List.toArray ct)) rfl rfl (hoct) rfl (by rw [hlct]; exact Nat.le_of_ble_eq_true rfl) (putA_all (by rw [hlct]; rfl)) ?_
        clear hF; intro w hF hE
        replace hXX := hXX.store hE (by grind)
        clear hE
        replace hF : FR w0 [] [(b3, .cells #[.int .i64 (0), .string (bs ([])), .slice (none) (0) (0), .slice (none) (0) (0)] 25), (m1, mapO (l1)), (b2, .cells (List.toArray ct) 25), (b1, .cells #[.int .i64 (k), .string (bs (t)), .slice (A) (ks.length) (c), .slice (B) (xs.length) (e)] 25)] w := hF
        refine o_val (v := .bool false) (x_assign rfl) ?_
        refine o_nil ?_
        refine e_seq ?_
        refine c_ret (e_ret (post_ret (res_ct rfl (l := ct) rfl Tryz.isAgg25 Tryz.sizeOf25 hlct (hF.cellsAll 2 rfl) (v := .bool false) rfl) ?_))
        have hg : getV (.node k t ks xs) key = (zeroT, false) := by rw [getV, if_pos ⟨ho_, by rw [Tree.kind]; exact k6⟩]; show (match lookT ks xs key with | some y => (y, true) | none => (zeroT, false)) = _; rw [hlt]
        refine ⟨_, by rw [hg], ?_, hF.same⟩
        rw [hg]
        exact hXX.done
      ·
        have hoy := hry.one_
        have hly : cy.length = 4 := hry.length.trans (size_treeD _)
        have hsz_ : sizeT y ≤ 1000000000 := by have := sizeTs_mem hym; rw [sizeT] at hsz; omega
        have hkz : keysT y ≤ 8796093022208 := by have := keys_lt y (hnx.2 y hym); omega
        refine o_val (v := .tuple #[.agg (List.toArray cy), .bool true]) (x_lookup2E Tryz.underlying58 Tryz.underlying9 Tryz.zeroValue25 rfl rfl (hF.heap (i := 0) rfl) (by rw [hlk]; rfl) (by rw [hlk]; rfl)) ?_
        refine o_val (v := .tuple #[.agg (List.toArray cy), .bool true]) (x_move rfl) ?_
        refine o_val (v := .agg (List.toArray cy)) (x_extract rfl rfl) ?_
        refine o_val (v := .bool true) (x_extract rfl rfl) ?_
        refine o_lay (l := cy) hF Tryz.zeroValue25 (by rw [hly]; exact Tryz.sizeOf25) (by rw [hly]; rfl) (v := .agg (List.toArray cy)) rfl rfl (hoy) rfl ?_
        clear hF; intro b4 w hb4 hF hE
        clear hE
        refine o_val (v := .bool true) (x_assign rfl) ?_
        refine o_nil ?_
        refine e_seq ?_
        refine c_seq ?_
        refine c_region ?_
        refine o_val (v := .agg (List.toArray cy)) (x_loadS (l := cy) Tryz.isAgg25 Tryz.sizeOf25 rfl hly (hF.cellsAll 0 rfl)) ?_
        refine o_call (clone_c y _ _ cy (hF.rep hry) hsz_ hkz) (x_call1 en_57 rfl rfl) ?_
        rintro _ w ⟨ct, rfl, hRt, hE⟩
        have hlct : ct.length = 4 := hRt.length.trans (size_treeD _)
        have hoct := hRt.one_
        have hXX := RX.made (ids := [b1, b2]) hF.same.size (fun x hx => hF.lt_ids (by grind)) hRt
        replace hF := hF.ext hE
        clear hE hRt
        refine o_val (v := .bool true) (x_move rfl) ?_
        refine o_store 2 (l := ct) (cs' := (List.toArray ct)) hF (by rw [hlct]; exact Tryz.sizeOf25) rfl (v := .agg (List.toArray ct)) rfl rfl (hoct) rfl (by rw [hlct]; exact Nat.le_of_ble_eq_true rfl) (putA_all (by rw [hlct]; rfl)) ?_
        clear hF; intro w hF hE
        replace hXX := hXX.store hE (by grind)
        clear hE
        replace hF : FR w0 [] [(b4, .cells (List.toArray cy) 25), (m1, mapO (l1)), (b2, .cells (List.toArray ct) 25), (b1, .cells #[.int .i64 (k), .string (bs (t)), .slice (A) (ks.length) (c), .slice (B) (xs.length) (e)] 25)] w := hF
        refine o_val (v := .bool true) (x_assign rfl) ?_
        refine o_nil ?_
        refine e_seq ?_
        refine c_ret (e_ret (post_ret (res_ct rfl (l := ct) rfl Tryz.isAgg25 Tryz.sizeOf25 hlct (hF.cellsAll 2 rfl) (v := .bool true) rfl) ?_))
        have hg : getV (.node k t ks xs) key = (y, true) := by rw [getV, if_pos ⟨ho_, by rw [Tree.kind]; exact k6⟩]; show (match lookT ks xs key with | some y => (y, true) | none => (zeroT, false)) = _; rw [hlt]
        refine ⟨_, by rw [hg], ?_, hF.same⟩
        rw [hg]
        exact hXX.done
set_option maxHeartbeats 1000000 in
set_option maxRecDepth 10000 in
theorem compareV_c (x y : Tree) (hsx : sizeT x ≤ 1000000000) (hsy : sizeT y ≤ 1000000000) (S S' : Nat → Prop) (w0 : World) (cs ct : List Value) (hR : Rep S w0 (treeD x) cs) (hR' : Rep S' w0 (treeD y) ct) (hk : okT x) (hk' : okT y) (hG : Gl w0) : Calls Tryz.prog 41 #[.agg cs.toArray, .agg ct.toArray] w0 (Ret fun v w' => v = .int .i64 (compareV x y) ∧ Same [] w0 w') := by
  have hl : cs.length = 4 := hR.length.trans (size_treeD x)
  have ho := hR.one_
  have hl' : ct.length = 4 := hR'.length.trans (size_treeD y)
  have ho' := hR'.one_
  refine calls_start Tryz.func41 rfl Tryz.ntmps41 (Nat.le_of_ble_eq_true rfl) (args_2 _ _) ?_
  have hF := FR.start w0 []
  refine c_seq ?_
  refine c_region ?_
  refine o_box (v := .agg (List.toArray cs)) (cs := (List.toArray cs)) hF rfl rfl ?_
  clear hF; intro b1 w hb1 hF hE
  clear hE
  refine o_box (v := .agg (List.toArray ct)) (cs := (List.toArray ct)) hF rfl rfl ?_
  clear hF; intro b2 w hb2 hF hE
  clear hE
  refine o_val (v := .int .i64 (0)) (x_assign rfl) ?_
  refine o_nil ?_
  refine e_seq ?_
  refine c_seq ?_
  refine c_drawF [] (.free 0 (.free 2 (.act 1 (.act 3 (.free 4 (.free 5 .nil)))))) (by kernel_rfl) hF (by kernel_rfl) (by kernel_rfl) ?_
  clear hF; intro w hF hE
  clear hE
  refine ⟨fun wq => FR w0 [] [(b2, .cells (List.toArray ct) 25), (b1, .cells (List.toArray cs) 25)] wq, hF, ?_⟩
  refine f_free rfl (v := .agg (List.toArray cs)) (fun w hC => x_loadS (l := cs) Tryz.isAgg25 Tryz.sizeOf25 rfl hl (hC.cellsAll 1 rfl)) ?_
  refine f_free rfl (v := .agg (List.toArray ct)) (fun w hC => x_loadS (l := ct) Tryz.isAgg25 Tryz.sizeOf25 rfl hl' (hC.cellsAll 0 rfl)) ?_
  refine f_call rfl (open_v x hsx S _ cs (hF.rep hR) hk (hG.ext hF.same)) (x_call1 en_33 rfl rfl) ?_
  rintro _ w ⟨rfl, hE⟩
  replace hF := hF.ext hE
  clear hE
  refine ⟨hF, ?_⟩
  refine f_call rfl (open_v y hsy S' _ ct (hF.rep hR') hk' (hG.ext hF.same)) (x_call1 en_33 rfl rfl) ?_
  rintro _ w ⟨rfl, hE⟩
  replace hF := hF.ext hE
  clear hE
  refine ⟨hF, ?_⟩
  refine f_free rfl (v := .bool (openB x)) (fun w hC => x_assign rfl) ?_
  refine f_free rfl (v := .bool (openB y)) (fun w hC => x_assign rfl) ?_
  refine d_nil ?_
  refine e_seq ?_
  refine c_seq ?_
  refine c_block ?_
  refine c_seq ?_
  refine c_region ?_
  refine o_val (v := .bool (openB x)) (x_move rfl) ?_
  refine o_val (v := .bool (openB x)) (x_move rfl) ?_
  refine o_split (d := 13) (b := openB x) rfl (fun hg0 => ?_) (fun hg0 => ?_)
  ·
    refine o_val (v := .bool (openB y)) (x_move rfl) ?_
    refine o_val (v := .bool (openB y)) (x_pickt rfl rfl) ?_
    refine o_val (v := .bool (openB y)) (x_assign rfl) ?_
    refine o_nil ?_
    refine e_seq ?_
    refine c_split (d := 11) (b := openB y) rfl (fun hc0 => ?_) (fun hc0 => ?_)
    ·
      refine c_ift rfl ?_
      refine c_seq ?_
      refine c_drawF [] (.free 0 (.free 2 (.act 1 (.act 3 (.act 4 (.free 5 .nil)))))) (by kernel_rfl) hF (by kernel_rfl) (by kernel_rfl) ?_
      clear hF; intro w hF hE
      clear hE
      refine ⟨fun wq => FR w0 [] [(b2, .cells (List.toArray ct) 25), (b1, .cells (List.toArray cs) 25)] wq, hF, ?_⟩
      refine f_free rfl (v := .agg (List.toArray cs)) (fun w hC => x_loadS (l := cs) Tryz.isAgg25 Tryz.sizeOf25 rfl hl (hC.cellsAll 1 rfl)) ?_
      refine f_free rfl (v := .agg (List.toArray ct)) (fun w hC => x_loadS (l := ct) Tryz.isAgg25 Tryz.sizeOf25 rfl hl' (hC.cellsAll 0 rfl)) ?_
      refine f_call rfl (sorted_c x S _ cs (hF.rep hR) hk (open_all (by simp_all)) hsx) (x_call1 en_55 rfl rfl) ?_
      rintro _ w ⟨cx, rfl, hRt, hE⟩
      have hlcx : cx.length = 4 := hRt.length.trans (size_treeD _)
      have hocx := hRt.one_
      have hXX := RX.made (ids := []) hF.same.size (fun x hx => hF.lt_ids (by grind)) hRt
      replace hF := hF.ext hE
      clear hE hRt
      refine ⟨hF, ?_⟩
      refine f_call rfl (sorted_c y S' _ ct (hF.rep hR') hk' (open_all (by simp_all)) hsy) (x_call1 en_55 rfl rfl) ?_
      rintro _ w ⟨cy, rfl, hRt, hE⟩
      have hlcy : cy.length = 4 := hRt.length.trans (size_treeD _)
      have hocy := hRt.one_
      have hYX := RX.made (ids := []) hF.same.size (fun x hx => hF.lt_ids (by grind)) hRt
      replace hXX := hXX.ext hE
      replace hF := hF.ext hE
      clear hE hRt
      refine ⟨hF, ?_⟩
      refine f_call rfl (order_c (sortT x) (sortT y) _ _ _ cx cy hXX.rep hYX.rep (okT_sort x hk) (okT_sort y hk') (hG.ext hF.same)) (x_call2 en_68 rfl rfl rfl) ?_
      rintro _ w ⟨rfl, hE⟩
      replace hF := hF.ext hE
      replace hXX := hXX.ext hE
      replace hYX := hYX.ext hE
      clear hE
      refine ⟨hF, ?_⟩
      refine f_free rfl (v := .int .i64 (orderT (sortT x) (sortT y))) (fun w hC => x_assign rfl) ?_
      refine d_nil ?_
      refine e_seq ?_
      refine c_ret (e_ret (post_ret (res_1 (v := .int .i64 (orderT (sortT x) (sortT y))) rfl rfl) ?_))
      refine ⟨congrArg (Value.int .i64) ?_, hF.same⟩
      unfold compareV
      simp_all
    ·
      refine c_iff rfl ?_
      refine c_seq ?_
      refine c_region ?_
      refine o_val (v := .bool (openB x)) (x_move rfl) ?_
      refine o_val (v := .bool (openB x)) (x_assign rfl) ?_
      refine o_nil ?_
      refine e_seq ?_
      refine c_split (d := 21) (b := openB x) rfl (fun hc1 => ?_) (fun hc1 => ?_)
      ·
        refine c_ift rfl ?_
        refine c_seq ?_
        refine c_region ?_
        refine o_val (v := .int .i64 (1)) (x_assign rfl) ?_
        refine o_nil ?_
        refine e_seq ?_
        refine c_ret (e_ret (post_ret (res_1 (v := .int .i64 (1)) rfl rfl) ?_))
        refine ⟨congrArg (Value.int .i64) ?_, hF.same⟩
        unfold compareV
        simp_all
      ·
        refine c_iff rfl ?_
        refine c_seq ?_
        refine c_region ?_
        refine o_val (v := .bool (openB y)) (x_move rfl) ?_
        refine o_val (v := .bool (openB y)) (x_assign rfl) ?_
        refine o_nil ?_
        refine e_seq ?_
        refine c_split (d := 23) (b := openB y) rfl (fun hc2 => ?_) (fun hc2 => ?_)
        ·
          refine c_ift rfl ?_
          refine c_seq ?_
          refine c_region ?_
          refine o_val (v := .int .i64 ((-1))) (x_assign rfl) ?_
          refine o_nil ?_
          refine e_seq ?_
          refine c_ret (e_ret (post_ret (res_1 (v := .int .i64 ((-1))) rfl rfl) ?_))
          refine ⟨congrArg (Value.int .i64) ?_, hF.same⟩
          unfold compareV
          simp_all
        ·
          refine c_iff rfl ?_
          refine c_skip ?_
          refine e_block ?_
          refine e_seq ?_
          refine c_seq ?_
          refine c_region ?_
          refine o_val (v := .int .i64 (0)) (x_assign rfl) ?_
          refine o_nil ?_
          refine e_seq ?_
          refine c_ret (e_ret (post_ret (res_1 (v := .int .i64 (0)) rfl rfl) ?_))
          refine ⟨congrArg (Value.int .i64) ?_, hF.same⟩
          unfold compareV
          simp_all
  ·
    refine o_off ?_
    refine o_val (v := .bool false) (x_pickf rfl rfl) ?_
    refine o_val (v := .bool false) (x_assign rfl) ?_
    refine o_nil ?_
    refine e_seq ?_
    refine c_iff rfl ?_
    refine c_seq ?_
    refine c_region ?_
    refine o_val (v := .bool (openB x)) (x_move rfl) ?_
    refine o_val (v := .bool (openB x)) (x_assign rfl) ?_
    refine o_nil ?_
    refine e_seq ?_
    refine c_split (d := 21) (b := openB x) rfl (fun hc1 => ?_) (fun hc1 => ?_)
    ·
      refine c_ift rfl ?_
      refine c_seq ?_
      refine c_region ?_
      refine o_val (v := .int .i64 (1)) (x_assign rfl) ?_
      refine o_nil ?_
      refine e_seq ?_
      refine c_ret (e_ret (post_ret (res_1 (v := .int .i64 (1)) rfl rfl) ?_))
      refine ⟨congrArg (Value.int .i64) ?_, hF.same⟩
      unfold compareV
      simp_all
    ·
      refine c_iff rfl ?_
      refine c_seq ?_
      refine c_region ?_
      refine o_val (v := .bool (openB y)) (x_move rfl) ?_
      refine o_val (v := .bool (openB y)) (x_assign rfl) ?_
      refine o_nil ?_
      refine e_seq ?_
      refine c_split (d := 23) (b := openB y) rfl (fun hc2 => ?_) (fun hc2 => ?_)
      ·
        refine c_ift rfl ?_
        refine c_seq ?_
        refine c_region ?_
        refine o_val (v := .int .i64 ((-1))) (x_assign rfl) ?_
        refine o_nil ?_
        refine e_seq ?_
        refine c_ret (e_ret (post_ret (res_1 (v := .int .i64 ((-1))) rfl rfl) ?_))
        refine ⟨congrArg (Value.int .i64) ?_, hF.same⟩
        unfold compareV
        simp_all
      ·
        refine c_iff rfl ?_
        refine c_skip ?_
        refine e_block ?_
        refine e_seq ?_
        refine c_seq ?_
        refine c_region ?_
        refine o_val (v := .int .i64 (0)) (x_assign rfl) ?_
        refine o_nil ?_
        refine e_seq ?_
        refine c_ret (e_ret (post_ret (res_1 (v := .int .i64 (0)) rfl rfl) ?_))
        refine ⟨congrArg (Value.int .i64) ?_, hF.same⟩
        unfold compareV
        simp_all
end Go.Scarf
