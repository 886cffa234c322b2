/- A part of the proof. -/
import Derived.Test.YtehmojdjpmliaaaGreatDoorW8
set_option linter.all false
namespace Go.Scarf
open Go.RowKit Go.Proofs
def rnodeB (x : Tree) : Bool := decide (x.kind ≠ 7) && nodeB x
def sizedB (x : Tree) : Bool := decide (sizeT x ≤ 4096) && decide (depthT x ≤ 32)
def openB (x : Tree) : Bool := sizedB x && allT nodeB x
def rightB (x : Tree) : Bool := sizedB x && allT rnodeB x
theorem wr_small {n : Nat} (h : n ≤ 1000000000) : wr (n : Int) = (n : Int) := wrap_id (by omega) (by omega)
set_option maxHeartbeats 1000000 in
set_option maxRecDepth 10000 in
theorem rnode_c  : PredC 61 rnodeB := by
  rintro ⟨k, t, ks, xs⟩ S w0 cs hR hk hG
  obtain ⟨A, c, B, e, rfl, -, -, hK, hX⟩ := hR.tree_inv
  refine calls_start Tryz.func61 rfl Tryz.ntmps61 (Nat.le_of_ble_eq_true rfl) (args_1 _) ?_
  have hF := FR.start w0 []
  refine c_seq ?_
  refine c_region ?_
  refine o_box (v := .agg #[.int .i64 (k), .string (bs (t)), .slice (A) (ks.length) (c), .slice (B) (xs.length) (e)]) (cs := #[.int .i64 (k), .string (bs (t)), .slice (A) (ks.length) (c), .slice (B) (xs.length) (e)]) hF rfl rfl ?_
  clear hF; intro b1 w hb1 hF hE
  clear hE
  refine o_val (v := .bool false) (x_assign rfl) ?_
  refine o_nil ?_
  refine e_seq ?_
  refine c_seq ?_
  refine c_region ?_
  refine o_val (v := .pointer (some ⟨b1, 0, none⟩)) (x_fieldAddrO fa_25_0 rfl) ?_
  refine o_val (v := .int .i64 (k)) (x_load Tryz.isAgg3 rfl (hF.cell 0 rfl rfl)) ?_
  refine o_val (v := .bool (decide ((k : Int) ≠ (7 : Int)))) (x_neq rfl rfl) ?_
  refine o_val (v := .bool (decide ((k : Int) ≠ (7 : Int)))) (x_move rfl) ?_
  refine o_splitd (d := 6) (p := (k : Int) ≠ (7 : Int)) rfl (fun hg0 => ?_) (fun hg0 => ?_)
  ·
    refine o_val (v := .agg #[.int .i64 (k), .string (bs (t)), .slice (A) (ks.length) (c), .slice (B) (xs.length) (e)]) (x_loadS (l := [.int .i64 (k), .string (bs (t)), .slice (A) (ks.length) (c), .slice (B) (xs.length) (e)]) Tryz.isAgg25 Tryz.sizeOf25 rfl rfl (hF.cellsAll 0 rfl)) ?_
    refine o_call (node_c (.node k t ks xs) S _ _ (hF.rep hR) hk (hG.ext hF.same)) (x_call1 en_62 rfl rfl) ?_
    rintro _ w ⟨rfl, hE⟩
    replace hF := hF.ext hE
    clear hE
    refine o_val (v := .bool (nodeB (.node k t ks xs))) (x_pickt rfl rfl) ?_
    refine o_val (v := .bool (nodeB (.node k t ks xs))) (x_assign rfl) ?_
    refine o_nil ?_
    refine e_seq ?_
    refine c_ret (e_ret (post_ret (res_1 (v := .bool (nodeB (.node k t ks xs))) rfl rfl) ?_))
    refine ⟨?_, hF.same⟩
    simp_all [rnodeB, Tree.kind]
  ·
    refine o_off ?_
    refine o_off ?_
    refine o_val (v := .bool false) (x_pickf rfl rfl) ?_
    refine o_val (v := .bool false) (x_assign rfl) ?_
    refine o_nil ?_
    refine e_seq ?_
    refine c_ret (e_ret (post_ret (res_1 (v := .bool false) rfl rfl) ?_))
    refine ⟨?_, hF.same⟩
    simp_all [rnodeB, Tree.kind]
theorem size_v (x : Tree) (hsz : sizeT x ≤ 1000000000) (S : Nat → Prop) (w0 : World) (cs : List Value) (hR : Rep S w0 (treeD x) cs) : Calls Tryz.prog 24 #[.agg cs.toArray] w0 (Ret fun v w' => v = .int .i64 (sizeT x : Nat) ∧ Same [] w0 w') := by
  have h := size_c x S w0 cs hR
  rwa [wr_small hsz] at h
set_option maxHeartbeats 1000000 in
set_option maxRecDepth 10000 in
theorem sized_c (x : Tree) (hsz : sizeT x ≤ 1000000000) (S : Nat → Prop) (w0 : World) (cs : List Value) (hR : Rep S w0 (treeD x) cs) : Calls Tryz.prog 59 #[.agg cs.toArray] w0 (Ret fun v w' => v = .bool (sizedB x) ∧ Same [] w0 w') := by
  have hl : cs.length = 4 := hR.length.trans (size_treeD x)
  have ho := hR.one_
  refine calls_start Tryz.func59 rfl Tryz.ntmps59 (Nat.le_of_ble_eq_true rfl) (args_1 _) ?_
  have hF := FR.start w0 []
  refine c_seq ?_
  refine c_region ?_
  refine o_box (v := .agg (List.toArray cs)) (cs := (List.toArray cs)) hF rfl rfl ?_
  clear hF; intro b1 w hb1 hF hE
  clear hE
  refine o_val (v := .bool false) (x_assign rfl) ?_
  refine o_nil ?_
  refine e_seq ?_
  refine c_seq ?_
  refine c_region ?_
  refine o_val (v := .agg (List.toArray cs)) (x_loadS (l := cs) Tryz.isAgg25 Tryz.sizeOf25 rfl hl (hF.cellsAll 0 rfl)) ?_
  refine o_call (size_v x hsz S _ cs (hF.rep hR)) (x_call1 en_24 rfl rfl) ?_
  rintro _ w ⟨rfl, hE⟩
  replace hF := hF.ext hE
  clear hE
  refine o_val (v := .bool (decide (((sizeT x : Nat) : Int) ≤ (4096 : Int)))) (x_leq rfl rfl) ?_
  refine o_val (v := .bool (decide (((sizeT x : Nat) : Int) ≤ (4096 : Int)))) (x_move rfl) ?_
  refine o_splitd (d := 6) (p := ((sizeT x : Nat) : Int) ≤ (4096 : Int)) rfl (fun hg0 => ?_) (fun hg0 => ?_)
  ·
    refine o_val (v := .agg (List.toArray cs)) (x_loadS (l := cs) Tryz.isAgg25 Tryz.sizeOf25 rfl hl (hF.cellsAll 0 rfl)) ?_
    refine o_call (depth_c x hsz S _ cs (hF.rep hR)) (x_call1 en_36 rfl rfl) ?_
    rintro _ w ⟨rfl, hE⟩
    replace hF := hF.ext hE
    clear hE
    refine o_val (v := .bool (decide (((depthT x : Nat) : Int) ≤ (32 : Int)))) (x_leq rfl rfl) ?_
    refine o_val (v := .bool (decide (((depthT x : Nat) : Int) ≤ (32 : Int)))) (x_pickt rfl rfl) ?_
    refine o_val (v := .bool (decide (((depthT x : Nat) : Int) ≤ (32 : Int)))) (x_assign rfl) ?_
    refine o_nil ?_
    refine e_seq ?_
    refine c_ret (e_ret (post_ret (res_1 (v := .bool (decide (((depthT x : Nat) : Int) ≤ (32 : Int)))) rfl rfl) ?_))
    refine ⟨congrArg Value.bool ?_, hF.same⟩
    unfold sizedB
    first | (rw [decide_eq_true (by omega : sizeT x ≤ 4096)]; exact decide_eq_decide.2 (by omega)) | (rw [decide_eq_false (by omega : ¬ sizeT x ≤ 4096)]; rfl)
  ·
    refine o_off ?_
    refine o_off ?_
    refine o_off ?_
    refine o_val (v := .bool false) (x_pickf rfl rfl) ?_
    refine o_val (v := .bool false) (x_assign rfl) ?_
    refine o_nil ?_
    refine e_seq ?_
    refine c_ret (e_ret (post_ret (res_1 (v := .bool false) rfl rfl) ?_))
    refine ⟨congrArg Value.bool ?_, hF.same⟩
    unfold sizedB
    first | (rw [decide_eq_true (by omega : sizeT x ≤ 4096)]; exact decide_eq_decide.2 (by omega)) | (rw [decide_eq_false (by omega : ¬ sizeT x ≤ 4096)]; rfl)
set_option maxHeartbeats 1000000 in
set_option maxRecDepth 10000 in
theorem right_v (x : Tree) (hsz : sizeT x ≤ 1000000000) (S : Nat → Prop) (w0 : World) (cs : List Value) (hR : Rep S w0 (treeD x) cs) (hk : okT x) (hG : Gl w0) : Calls Tryz.prog 31 #[.agg cs.toArray] w0 (Ret fun v w' => v = .bool (rightB x) ∧ Same [] w0 w') := by
  have hl : cs.length = 4 := hR.length.trans (size_treeD x)
  have ho := hR.one_
  refine calls_start Tryz.func31 rfl Tryz.ntmps31 (Nat.le_of_ble_eq_true rfl) (args_1 _) ?_
  have hF := FR.start w0 []
  refine c_seq ?_
  refine c_region ?_
  refine o_box (v := .agg (List.toArray cs)) (cs := (List.toArray cs)) hF rfl rfl ?_
  clear hF; intro b1 w hb1 hF hE
  clear hE
  refine o_val (v := .bool false) (x_assign rfl) ?_
  refine o_nil ?_
  refine e_seq ?_
  refine c_seq ?_
  refine c_region ?_
  refine o_val (v := .agg (List.toArray cs)) (x_loadS (l := cs) Tryz.isAgg25 Tryz.sizeOf25 rfl hl (hF.cellsAll 0 rfl)) ?_
  refine o_call (sized_c x hsz S _ cs (hF.rep hR)) (x_call1 en_59 rfl rfl) ?_
  rintro _ w ⟨rfl, hE⟩
  replace hF := hF.ext hE
  clear hE
  refine o_val (v := .bool (sizedB x)) (x_move rfl) ?_
  refine o_split (d := 5) (b := sizedB x) rfl (fun hg0 => ?_) (fun hg0 => ?_)
  ·
    refine o_val (v := .agg (List.toArray cs)) (x_loadS (l := cs) Tryz.isAgg25 Tryz.sizeOf25 rfl hl (hF.cellsAll 0 rfl)) ?_
    refine o_call (every61_c rnodeB rnode_c x S _ cs (hF.rep hR) hk (hG.ext hF.same)) (x_call2 en_60 rfl rfl rfl) ?_
    rintro _ w ⟨rfl, hE⟩
    replace hF := hF.ext hE
    clear hE
    refine o_val (v := .bool (allT rnodeB x)) (x_pickt rfl rfl) ?_
    refine o_val (v := .bool (allT rnodeB x)) (x_assign rfl) ?_
    refine o_nil ?_
    refine e_seq ?_
    refine c_ret (e_ret (post_ret (res_1 (v := .bool (allT rnodeB x)) rfl rfl) ?_))
    exact ⟨congrArg Value.bool (by unfold rightB; simp_all), hF.same⟩
  ·
    refine o_off ?_
    refine o_off ?_
    refine o_val (v := .bool false) (x_pickf rfl rfl) ?_
    refine o_val (v := .bool false) (x_assign rfl) ?_
    refine o_nil ?_
    refine e_seq ?_
    refine c_ret (e_ret (post_ret (res_1 (v := .bool false) rfl rfl) ?_))
    exact ⟨congrArg Value.bool (by unfold rightB; simp_all), hF.same⟩
set_option maxHeartbeats 1000000 in
set_option maxRecDepth 10000 in
theorem open_v (x : Tree) (hsz : sizeT x ≤ 1000000000) (S : Nat → Prop) (w0 : World) (cs : List Value) (hR : Rep S w0 (treeD x) cs) (hk : okT x) (hG : Gl w0) : Calls Tryz.prog 33 #[.agg cs.toArray] w0 (Ret fun v w' => v = .bool (openB x) ∧ Same [] w0 w') := by
  have hl : cs.length = 4 := hR.length.trans (size_treeD x)
  have ho := hR.one_
  refine calls_start Tryz.func33 rfl Tryz.ntmps33 (Nat.le_of_ble_eq_true rfl) (args_1 _) ?_
  have hF := FR.start w0 []
  refine c_seq ?_
  refine c_region ?_
  refine o_box (v := .agg (List.toArray cs)) (cs := (List.toArray cs)) hF rfl rfl ?_
  clear hF; intro b1 w hb1 hF hE
  clear hE
  refine o_val (v := .bool false) (x_assign rfl) ?_
  refine o_nil ?_
  refine e_seq ?_
  refine c_seq ?_
  refine c_region ?_
  refine o_val (v := .agg (List.toArray cs)) (x_loadS (l := cs) Tryz.isAgg25 Tryz.sizeOf25 rfl hl (hF.cellsAll 0 rfl)) ?_
  refine o_call (sized_c x hsz S _ cs (hF.rep hR)) (x_call1 en_59 rfl rfl) ?_
  rintro _ w ⟨rfl, hE⟩
  replace hF := hF.ext hE
  clear hE
  refine o_val (v := .bool (sizedB x)) (x_move rfl) ?_
  refine o_split (d := 5) (b := sizedB x) rfl (fun hg0 => ?_) (fun hg0 => ?_)
  ·
    refine o_val (v := .agg (List.toArray cs)) (x_loadS (l := cs) Tryz.isAgg25 Tryz.sizeOf25 rfl hl (hF.cellsAll 0 rfl)) ?_
    refine o_call (every62_c nodeB node_c x S _ cs (hF.rep hR) hk (hG.ext hF.same)) (x_call2 en_60 rfl rfl rfl) ?_
    rintro _ w ⟨rfl, hE⟩
    replace hF := hF.ext hE
    clear hE
    refine o_val (v := .bool (allT nodeB x)) (x_pickt rfl rfl) ?_
    refine o_val (v := .bool (allT nodeB x)) (x_assign rfl) ?_
    refine o_nil ?_
    refine e_seq ?_
    refine c_ret (e_ret (post_ret (res_1 (v := .bool (allT nodeB x)) rfl rfl) ?_))
    exact ⟨congrArg Value.bool (by unfold openB; simp_all), hF.same⟩
  ·
    refine o_off ?_
    refine o_off ?_
    refine o_val (v := .bool false) (x_pickf rfl rfl) ?_
    refine o_val (v := .bool false) (x_assign rfl) ?_
    refine o_nil ?_
    refine e_seq ?_
    refine c_ret (e_ret (post_ret (res_1 (v := .bool false) rfl rfl) ?_))
    exact ⟨congrArg Value.bool (by unfold openB; simp_all), hF.same⟩
end Go.Scarf
