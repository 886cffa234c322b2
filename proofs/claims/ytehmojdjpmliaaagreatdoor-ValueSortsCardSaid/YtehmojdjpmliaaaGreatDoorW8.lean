/- A part of the proof. -/
import Derived.Test.YtehmojdjpmliaaaGreatDoorW7
set_option linter.all false
namespace Go.Scarf
open Go.RowKit Go.Proofs
theorem Same.cell {w w' : World} {a : Addr} {v : Value} (h : Same [] w w') (hc : w.cell? a = some v) : w'.cell? a = some v := ((FR.start w []).ext h).cell0 hc
mutual
def allT (q : Tree → Bool) : Tree → Bool | .node k t ks xs => q (.node k t ks xs) && allTs q xs
def allTs (q : Tree → Bool) : List Tree → Bool | [] => true | x :: xs => allT q x && allTs q xs
end
theorem allTs_any (q : Tree → Bool) : ∀ xs : List Tree, allTs q xs = !(xs.any fun x => !allT q x)
  | [] => rfl
  | x :: xs => by rw [allTs, allTs_any q xs]; simp
def EachC (w0 : World) (bb : Nat) (xs : List Tree) (q : Tree → Bool) : Prop := ∀ x, x ∈ xs → ∀ S w cs, Same [] w0 w → Rep S w (treeD x) cs → Calls Tryz.prog 85 #[.agg cs.toArray, .pointer (some ⟨bb, 0, none⟩)] w (Ret fun v w' => v = .bool (q x) ∧ Same [] w w')
theorem EachC.ext {w0 w : World} {bb : Nat} {xs : List Tree} {q : Tree → Bool} (h : EachC w0 bb xs q) (hs : Same [] w0 w) : EachC w bb xs q := fun x hx S w' cs hw => h x hx S w' cs (hs.trans hw)
theorem none_take {q : Tree → Bool} {xs : List Tree} {j : Nat} (h : j < xs.length) (hn : (xs.take j).any q = false) (hq : q xs[j] = false) : (xs.take (j + 1)).any q = false := by
  rw [List.take_succ_eq_append_getElem h, List.any_append, hn]; simp [hq]
def EveryC (g : Nat) (q : Tree → Bool) (x : Tree) : Prop := ∀ S w0 cs, Rep S w0 (treeD x) cs → okT x → Gl w0 → Calls Tryz.prog 60 #[.agg cs.toArray, .func (.func g) #[] #[]] w0 (Ret fun v w' => v = .bool (allT q x) ∧ Same [] w0 w')
set_option maxHeartbeats 1000000 in
set_option maxRecDepth 10000 in
theorem indexFunc_c (xs : List Tree) (q : Tree → Bool) (bb : Nat) (B : Option Addr) (e : Nat) (S : Nat → Prop) (w0 : World) (hX : Rep S w0 (.slice (treesD xs)) [.slice B xs.length e]) (hq : EachC w0 bb xs q) : Calls Tryz.prog 117 #[.slice B xs.length e, .func (.func 85) #[] #[.pointer (some ⟨bb, 0, none⟩)]] w0 (Ret fun v w' => ∃ n : Int, v = .int .i64 n ∧ decide (0 ≤ n) = xs.any q ∧ Same [] w0 w') := by
  have hXl := hX.slice_len
  refine calls_start Tryz.func117 rfl Tryz.ntmps117 (Nat.le_of_ble_eq_true rfl) (args_2 _ _) ?_
  have hF := FR.start w0 []
  refine c_seq ?_
  refine c_region ?_
  refine o_val (v := .int .i64 (0)) (x_assign rfl) ?_
  refine o_nil ?_
  refine e_seq ?_
  refine c_seq ?_
  refine c_seq ?_
  refine c_region ?_
  refine o_val (v := .slice (B) (xs.length) (e)) (x_move rfl) ?_
  refine o_val (v := .int .i64 ((xs.length : Nat))) (x_len_slice Tryz.underlying23 rfl) ?_
  refine o_val (v := .int .i64 (0)) (x_move rfl) ?_
  refine o_nil ?_
  refine e_seq ?_
  refine c_block ?_
  refine c_loop (fun μ σ w => ∃ (j : Nat), μ = xs.length - j ∧ (j ≤ xs.length) ∧ ((xs.take j).any q = false) ∧ AllEq σ [(0, .slice (B) (xs.length) (e)), (1, .func (.func 85) #[] #[.pointer (some (⟨bb, 0, none⟩))]), (7, .int .i64 ((xs.length : Nat))), (8, .int .i64 ((j : Int)))] ∧ FR w0 [] [] w) _ ⟨0, rfl, (Nat.zero_le _), (by simp), ⟨rfl, rfl, rfl, rfl, trivial⟩, hF⟩ ?_
  clear hF; rintro μ σ w ⟨j, rfl, hj, hn, hs, hF⟩
  refine Cg.slots hs ?_
  clear hs; intro σ
  refine c_seq ?_
  refine c_region ?_
  refine o_val (v := .bool (decide (((j : Int) : Int) < ((xs.length : Nat) : Int)))) (x_lss rfl rfl) ?_
  refine o_nil ?_
  refine e_seq ?_
  refine c_seq ?_
  refine c_splitd (d := 9) (p := ((j : Int) : Int) < ((xs.length : Nat) : Int)) rfl (fun hc0 => ?_) (fun hc0 => ?_)
  ·
    refine c_ift rfl ?_
    refine c_skip ?_
    refine e_seq ?_
    refine c_seq ?_
    refine c_block ?_
    refine c_seq ?_
    refine c_region ?_
    refine o_val (v := .int .i64 ((j : Int))) (x_move rfl) ?_
    refine o_val (v := .int .i64 ((j : Int))) (x_assign rfl) ?_
    refine o_nil ?_
    refine e_seq ?_
    refine c_seq ?_
    refine c_region ?_
    refine o_val (v := .func (.func 85) #[] #[.pointer (some (⟨bb, 0, none⟩))]) (x_move rfl) ?_
    refine o_val (v := .slice (B) (xs.length) (e)) (x_move rfl) ?_
    refine o_val (v := .int .i64 ((j : Int))) (x_move rfl) ?_
    obtain ⟨ad0, cs0, hA0, hl0, hk0, hx0⟩ := hX.tree_elem (i := j) (by omega)
    have ho0 := hx0.one_
    refine o_val (v := .pointer (some (ad0.add (j * 4)))) (x_indexAddrA (i := (j : Int)) sl_23 rfl hA0 rfl (by omega) (by omega)) ?_
    refine o_val (v := .agg (List.toArray cs0)) (x_loadS (l := cs0) Tryz.isAgg25 Tryz.sizeOf25 rfl hl0 (hF.cells0 hk0)) ?_
    refine o_call (hq _ (List.getElem_mem (l := xs) (n := j) (by omega)) _ _ _ hF.same (hF.rep hx0)) (x_callv1 rfl en_85 rfl rfl) ?_
    rintro _ w ⟨rfl, hE⟩
    replace hF := hF.ext hE
    clear hE
    refine o_nil ?_
    refine e_seq ?_
    refine c_split (d := 16) (b := q xs[j]) rfl (fun hc1 => ?_) (fun hc1 => ?_)
    ·
      refine c_ift rfl ?_
      refine c_seq ?_
      refine c_region ?_
      refine o_val (v := .int .i64 ((j : Int))) (x_move rfl) ?_
      refine o_val (v := .int .i64 ((j : Int))) (x_assign rfl) ?_
      refine o_nil ?_
      refine e_seq ?_
      refine c_ret (e_ret (post_ret (res_1 (v := .int .i64 ((j : Int))) rfl rfl) ?_))
      exact ⟨_, rfl, by rw [List.any_eq_true.2 ⟨_, List.getElem_mem (l := xs) (n := j) (by omega), hc1⟩]; simp, hF.same⟩
    ·
      refine c_iff rfl ?_
      refine c_skip ?_
      refine e_block ?_
      refine e_seq ?_
      refine c_region ?_
      refine o_val (v := .int .i64 (((j : Int) : Int) + 1)) (x_add rfl rfl (wrap_id (by omega) (by omega))) ?_
      refine o_val (v := .int .i64 (((j : Int) : Int) + 1)) (x_move rfl) ?_
      refine o_nil ?_
      refine e_inv ⟨_, ?_, j + 1, rfl, (by omega), (none_take (by omega) hn hc1), ⟨rfl, rfl, rfl, rfl, trivial⟩, hF⟩
      omega
  ·
    refine c_iff rfl ?_
    refine c_exit (e_exit rfl ?_)
    refine e_seq ?_
    refine c_seq ?_
    refine c_region ?_
    refine o_val (v := .int .i64 ((-1))) (x_assign rfl) ?_
    refine o_nil ?_
    refine e_seq ?_
    refine c_ret (e_ret (post_ret (res_1 (v := .int .i64 ((-1))) rfl rfl) ?_))
    have eT : xs.take j = xs := List.take_of_length_le (by omega)
    rw [eT] at hn
    exact ⟨_, rfl, by rw [hn]; decide, hF.same⟩
set_option maxHeartbeats 1000000 in
set_option maxRecDepth 10000 in
theorem containsFunc_c (xs : List Tree) (q : Tree → Bool) (bb : Nat) (B : Option Addr) (e : Nat) (S : Nat → Prop) (w0 : World) (hX : Rep S w0 (.slice (treesD xs)) [.slice B xs.length e]) (hq : EachC w0 bb xs q) : Calls Tryz.prog 84 #[.slice B xs.length e, .func (.func 85) #[] #[.pointer (some ⟨bb, 0, none⟩)]] w0 (Ret fun v w' => v = .bool (xs.any q) ∧ Same [] w0 w') := by
  refine calls_start Tryz.func84 rfl Tryz.ntmps84 (Nat.le_of_ble_eq_true rfl) (args_2 _ _) ?_
  have hF := FR.start w0 []
  refine c_seq ?_
  refine c_region ?_
  refine o_val (v := .bool false) (x_assign rfl) ?_
  refine o_nil ?_
  refine e_seq ?_
  refine c_seq ?_
  refine c_region ?_
  refine o_val (v := .slice (B) (xs.length) (e)) (x_move rfl) ?_
  refine o_val (v := .func (.func 85) #[] #[.pointer (some (⟨bb, 0, none⟩))]) (x_move rfl) ?_
  refine o_call (indexFunc_c xs q bb B e S _ (hF.rep hX) (hq.ext hF.same)) (x_call2 en_117 rfl rfl rfl) ?_
  rintro _ w ⟨n, rfl, hn, hE⟩
  replace hF := hF.ext hE
  clear hE
  refine o_val (v := .bool (decide ((0 : Int) ≤ (n : Int)))) (x_geq rfl rfl) ?_
  refine o_val (v := .bool (decide ((0 : Int) ≤ (n : Int)))) (x_assign rfl) ?_
  refine o_nil ?_
  refine e_seq ?_
  refine c_ret (e_ret (post_ret (res_1 (v := .bool (decide ((0 : Int) ≤ (n : Int)))) rfl rfl) ?_))
  exact ⟨congrArg Value.bool hn, hF.same⟩
set_option maxHeartbeats 1000000 in
set_option maxRecDepth 10000 in
theorem everyCl_c (g : Nat) (q : Tree → Bool) (x : Tree) (h : EveryC g q x) (bb : Nat) (S : Nat → Prop) (w0 : World) (cs : List Value) (hR : Rep S w0 (treeD x) cs) (hk : okT x) (hG : Gl w0) (hb : w0.cell? ⟨bb, 0, none⟩ = some (.func (.func g) #[] #[])) : Calls Tryz.prog 85 #[.agg cs.toArray, .pointer (some ⟨bb, 0, none⟩)] w0 (Ret fun v w' => v = .bool (!allT q x) ∧ Same [] w0 w') := by
  have hl : cs.length = 4 := hR.length.trans (size_treeD x)
  have ho := hR.one_
  refine calls_start Tryz.func85 rfl Tryz.ntmps85 (Nat.le_of_ble_eq_true rfl) (args_2 _ _) ?_
  have hF := FR.start w0 []
  refine c_seq ?_
  refine c_region ?_
  refine o_box (v := .agg (List.toArray cs)) (cs := (List.toArray cs)) hF rfl rfl ?_
  clear hF; intro b1 w hb1 hF hE
  clear hE
  refine o_val (v := .bool false) (x_assign rfl) ?_
  refine o_nil ?_
  refine e_seq ?_
  refine c_seq ?_
  refine c_region ?_
  refine o_val (v := .agg (List.toArray cs)) (x_loadS (l := cs) Tryz.isAgg25 Tryz.sizeOf25 rfl hl (hF.cellsAll 0 rfl)) ?_
  refine o_val (v := .func (.func g) #[] #[]) (x_load Tryz.isAgg38 rfl (hF.cell0 hb)) ?_
  refine o_call (h S _ cs (hF.rep hR) hk (hG.ext hF.same)) (x_call2 en_60 rfl rfl rfl) ?_
  rintro _ w ⟨rfl, hE⟩
  replace hF := hF.ext hE
  clear hE
  refine o_val (v := .bool (!(allT q x))) (x_not rfl) ?_
  refine o_val (v := .bool (!(allT q x))) (x_assign rfl) ?_
  refine o_nil ?_
  refine e_seq ?_
  refine c_ret (e_ret (post_ret (res_1 (v := .bool (!(allT q x))) rfl rfl) ?_))
  exact ⟨rfl, hF.same⟩
set_option maxHeartbeats 1000000 in
set_option maxRecDepth 10000 in
theorem every61_step (q : Tree → Bool) (hp : PredC 61 q) (k : Int) (t : Str) (ks : List Str) (xs : List Tree) (ih : ∀ x, x ∈ xs → EveryC 61 q x) : EveryC 61 q (.node k t ks xs) := by
  intro S w0 cs hR hk hG
  have hk' := hk
  rw [okT] at hk'
  obtain ⟨A, c, B, e, rfl, -, -, hK, hX⟩ := hR.tree_inv
  refine calls_start Tryz.func60 rfl Tryz.ntmps60 (Nat.le_of_ble_eq_true rfl) (args_2 _ _) ?_
  have hF := FR.start w0 []
  refine c_seq ?_
  refine c_region ?_
  refine o_box (v := .agg #[.int .i64 (k), .string (bs (t)), .slice (A) (ks.length) (c), .slice (B) (xs.length) (e)]) (cs := #[.int .i64 (k), .string (bs (t)), .slice (A) (ks.length) (c), .slice (B) (xs.length) (e)]) hF rfl rfl ?_
  clear hF; intro b1 w hb1 hF hE
  clear hE
  refine o_box (v := .func (.func 61) #[] #[]) (cs := #[.func (.func 61) #[] #[]]) hF rfl rfl ?_
  clear hF; intro b2 w hb2 hF hE
  clear hE
  refine o_val (v := .bool false) (x_assign rfl) ?_
  refine o_nil ?_
  refine e_seq ?_
  refine c_seq ?_
  refine c_region ?_
  refine o_val (v := .func (.func 61) #[] #[]) (x_load Tryz.isAgg38 rfl (hF.cell 0 rfl rfl)) ?_
  refine o_val (v := .agg #[.int .i64 (k), .string (bs (t)), .slice (A) (ks.length) (c), .slice (B) (xs.length) (e)]) (x_loadS (l := [.int .i64 (k), .string (bs (t)), .slice (A) (ks.length) (c), .slice (B) (xs.length) (e)]) Tryz.isAgg25 Tryz.sizeOf25 rfl rfl (hF.cellsAll 1 rfl)) ?_
  refine o_call (hp (.node k t ks xs) S _ _ (hF.rep hR) hk (hG.ext hF.same)) (x_callv1 rfl en_61 rfl rfl) ?_
  rintro _ w ⟨rfl, hE⟩
  replace hF := hF.ext hE
  clear hE
  refine o_val (v := .bool (q (.node k t ks xs))) (x_move rfl) ?_
  refine o_split (d := 8) (b := q (.node k t ks xs)) rfl (fun hg0 => ?_) (fun hg0 => ?_)
  ·
    refine o_val (v := .pointer (some ⟨b1, 3, none⟩)) (x_fieldAddrO fa_25_3 rfl) ?_
    refine o_val (v := .slice (B) (xs.length) (e)) (x_load Tryz.isAgg23 rfl (hF.cell 1 rfl rfl)) ?_
    refine o_val (v := .func (.func 85) #[] #[.pointer (some ⟨b2, 0, none⟩)]) (x_makeFunc01 rfl) ?_
    refine o_call (containsFunc_c xs (fun x => !allT q x) b2 B e S _ (hF.rep hX) (fun x hx S' w' cs' hs hr => everyCl_c 61 q x (ih x hx) b2 S' w' cs' hr (okTs_mem hk'.2.2 x hx) ((hG.ext hF.same).ext hs) (hs.cell (hF.cell 0 rfl rfl)))) (x_call2 en_84 rfl rfl rfl) ?_
    rintro _ w ⟨rfl, hE⟩
    replace hF := hF.ext hE
    clear hE
    refine o_val (v := .bool (!(xs.any fun x => !allT q x))) (x_not rfl) ?_
    refine o_val (v := .bool (!(xs.any fun x => !allT q x))) (x_pickt rfl rfl) ?_
    refine o_val (v := .bool (!(xs.any fun x => !allT q x))) (x_assign rfl) ?_
    refine o_nil ?_
    refine e_seq ?_
    refine c_ret (e_ret (post_ret (res_1 (v := .bool (!(xs.any fun x => !allT q x))) rfl rfl) ?_))
    refine ⟨?_, hF.same⟩
    rw [allT, allTs_any]
    simp_all
  ·
    refine o_off ?_
    refine o_off ?_
    refine o_off ?_
    refine o_off ?_
    refine o_off ?_
    refine o_val (v := .bool false) (x_pickf rfl rfl) ?_
    refine o_val (v := .bool false) (x_assign rfl) ?_
    refine o_nil ?_
    refine e_seq ?_
    refine c_ret (e_ret (post_ret (res_1 (v := .bool false) rfl rfl) ?_))
    refine ⟨?_, hF.same⟩
    rw [allT, allTs_any]
    simp_all
theorem every61_c (q : Tree → Bool) (hp : PredC 61 q) (x : Tree) : EveryC 61 q x := Tree.ind (every61_step q hp) x
set_option maxHeartbeats 1000000 in
set_option maxRecDepth 10000 in
theorem every62_step (q : Tree → Bool) (hp : PredC 62 q) (k : Int) (t : Str) (ks : List Str) (xs : List Tree) (ih : ∀ x, x ∈ xs → EveryC 62 q x) : EveryC 62 q (.node k t ks xs) := by
  intro S w0 cs hR hk hG
  have hk' := hk
  rw [okT] at hk'
  obtain ⟨A, c, B, e, rfl, -, -, hK, hX⟩ := hR.tree_inv
  refine calls_start Tryz.func60 rfl Tryz.ntmps60 (Nat.le_of_ble_eq_true rfl) (args_2 _ _) ?_
  have hF := FR.start w0 []
  refine c_seq ?_
  refine c_region ?_
  refine o_box (v := .agg #[.int .i64 (k), .string (bs (t)), .slice (A) (ks.length) (c), .slice (B) (xs.length) (e)]) (cs := #[.int .i64 (k), .string (bs (t)), .slice (A) (ks.length) (c), .slice (B) (xs.length) (e)]) hF rfl rfl ?_
  clear hF; intro b1 w hb1 hF hE
  clear hE
  refine o_box (v := .func (.func 62) #[] #[]) (cs := #[.func (.func 62) #[] #[]]) hF rfl rfl ?_
  clear hF; intro b2 w hb2 hF hE
  clear hE
  refine o_val (v := .bool false) (x_assign rfl) ?_
  refine o_nil ?_
  refine e_seq ?_
  refine c_seq ?_
  refine c_region ?_
  refine o_val (v := .func (.func 62) #[] #[]) (x_load Tryz.isAgg38 rfl (hF.cell 0 rfl rfl)) ?_
  refine o_val (v := .agg #[.int .i64 (k), .string (bs (t)), .slice (A) (ks.length) (c), .slice (B) (xs.length) (e)]) (x_loadS (l := [.int .i64 (k), .string (bs (t)), .slice (A) (ks.length) (c), .slice (B) (xs.length) (e)]) Tryz.isAgg25 Tryz.sizeOf25 rfl rfl (hF.cellsAll 1 rfl)) ?_
  refine o_call (hp (.node k t ks xs) S _ _ (hF.rep hR) hk (hG.ext hF.same)) (x_callv1 rfl en_62 rfl rfl) ?_
  rintro _ w ⟨rfl, hE⟩
  replace hF := hF.ext hE
  clear hE
  refine o_val (v := .bool (q (.node k t ks xs))) (x_move rfl) ?_
  refine o_split (d := 8) (b := q (.node k t ks xs)) rfl (fun hg0 => ?_) (fun hg0 => ?_)
  ·
    refine o_val (v := .pointer (some ⟨b1, 3, none⟩)) (x_fieldAddrO fa_25_3 rfl) ?_
    refine o_val (v := .slice (B) (xs.length) (e)) (x_load Tryz.isAgg23 rfl (hF.cell 1 rfl rfl)) ?_
    refine o_val (v := .func (.func 85) #[] #[.pointer (some ⟨b2, 0, none⟩)]) (x_makeFunc01 rfl) ?_
    refine o_call (containsFunc_c xs (fun x => !allT q x) b2 B e S _ (hF.rep hX) (fun x hx S' w' cs' hs hr => everyCl_c 62 q x (ih x hx) b2 S' w' cs' hr (okTs_mem hk'.2.2 x hx) ((hG.ext hF.same).ext hs) (hs.cell (hF.cell 0 rfl rfl)))) (x_call2 en_84 rfl rfl rfl) ?_
    rintro _ w ⟨rfl, hE⟩
    replace hF := hF.ext hE
    clear hE
    refine o_val (v := .bool (!(xs.any fun x => !allT q x))) (x_not rfl) ?_
    refine o_val (v := .bool (!(xs.any fun x => !allT q x))) (x_pickt rfl rfl) ?_
    refine o_val (v := .bool (!(xs.any fun x => !allT q x))) (x_assign rfl) ?_
    refine o_nil ?_
    refine e_seq ?_
    refine c_ret (e_ret (post_ret (res_1 (v := .bool (!(xs.any fun x => !allT q x))) rfl rfl) ?_))
    refine ⟨?_, hF.same⟩
    rw [allT, allTs_any]
    simp_all
  ·
    refine o_off ?_
    refine o_off ?_
    refine o_off ?_
    refine o_off ?_
    refine o_off ?_
    refine o_val (v := .bool false) (x_pickf rfl rfl) ?_
    refine o_val (v := .bool false) (x_assign rfl) ?_
    refine o_nil ?_
    refine e_seq ?_
    refine c_ret (e_ret (post_ret (res_1 (v := .bool false) rfl rfl) ?_))
    refine ⟨?_, hF.same⟩
    rw [allT, allTs_any]
    simp_all
theorem every62_c (q : Tree → Bool) (hp : PredC 62 q) (x : Tree) : EveryC 62 q x := Tree.ind (every62_step q hp) x
end Go.Scarf
