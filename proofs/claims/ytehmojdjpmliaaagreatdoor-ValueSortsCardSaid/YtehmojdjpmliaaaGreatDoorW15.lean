/- A part of the proof. -/
import Derived.Test.YtehmojdjpmliaaaGreatDoorW14
set_option linter.all false
namespace Go.Scarf
open Go.RowKit Go.Proofs
def SameV (x y : Tree) : Bool := openB x && openB y && sameT x y
theorem open_all {x : Tree} (h : openB x = true) : allT nodeB x = true := by unfold openB at h; rw [Bool.and_eq_true] at h; exact h.2
set_option maxHeartbeats 1000000 in
set_option maxRecDepth 10000 in
theorem sameV_c (x y : Tree) (hsx : sizeT x ≤ 1000000000) (hsy : sizeT y ≤ 1000000000) (S S' : Nat → Prop) (w0 : World) (cs ct : List Value) (hR : Rep S w0 (treeD x) cs) (hR' : Rep S' w0 (treeD y) ct) (hk : okT x) (hk' : okT y) (hG : Gl w0) : Calls Tryz.prog 42 #[.agg cs.toArray, .agg ct.toArray] w0 (Ret fun v w' => v = .bool (SameV x y) ∧ Same [] w0 w') := by
  have hl : cs.length = 4 := hR.length.trans (size_treeD x)
  have ho := hR.one_
  have hl' : ct.length = 4 := hR'.length.trans (size_treeD y)
  have ho' := hR'.one_
  refine calls_start Tryz.func42 rfl Tryz.ntmps42 (Nat.le_of_ble_eq_true rfl) (args_2 _ _) ?_
  have hF := FR.start w0 []
  refine c_seq ?_
  refine c_region ?_
  refine o_box (v := .agg (List.toArray cs)) (cs := (List.toArray cs)) hF rfl rfl ?_
  clear hF; intro b1 w hb1 hF hE
  clear hE
  refine o_box (v := .agg (List.toArray ct)) (cs := (List.toArray ct)) hF rfl rfl ?_
  clear hF; intro b2 w hb2 hF hE
  clear hE
  refine o_val (v := .bool false) (x_assign rfl) ?_
  refine o_nil ?_
  refine e_seq ?_
  refine c_seq ?_
  refine c_region ?_
  refine o_val (v := .agg (List.toArray cs)) (x_loadS (l := cs) Tryz.isAgg25 Tryz.sizeOf25 rfl hl (hF.cellsAll 1 rfl)) ?_
  refine o_call (open_v x hsx S _ cs (hF.rep hR) hk (hG.ext hF.same)) (x_call1 en_33 rfl rfl) ?_
  rintro _ w ⟨rfl, hE⟩
  replace hF := hF.ext hE
  clear hE
  refine o_val (v := .bool (openB x)) (x_move rfl) ?_
  refine o_split (d := 7) (b := openB x) rfl (fun hg0 => ?_) (fun hg0 => ?_)
  ·
    refine o_val (v := .agg (List.toArray ct)) (x_loadS (l := ct) Tryz.isAgg25 Tryz.sizeOf25 rfl hl' (hF.cellsAll 0 rfl)) ?_
    refine o_call (open_v y hsy S' _ ct (hF.rep hR') hk' (hG.ext hF.same)) (x_call1 en_33 rfl rfl) ?_
    rintro _ w ⟨rfl, hE⟩
    replace hF := hF.ext hE
    clear hE
    refine o_val (v := .bool (openB y)) (x_pickt rfl rfl) ?_
    refine o_val (v := .bool (openB y)) (x_move rfl) ?_
    refine o_split (d := 11) (b := openB y) rfl (fun hg1 => ?_) (fun hg1 => ?_)
    ·
      refine o_val (v := .agg (List.toArray cs)) (x_loadS (l := cs) Tryz.isAgg25 Tryz.sizeOf25 rfl hl (hF.cellsAll 1 rfl)) ?_
      refine o_val (v := .agg (List.toArray ct)) (x_loadS (l := ct) Tryz.isAgg25 Tryz.sizeOf25 rfl hl' (hF.cellsAll 0 rfl)) ?_
      refine o_call (same_c x y S S' _ cs ct (hF.rep hR) (hF.rep hR') (open_all (by simp_all)) (open_all (by simp_all))) (x_call2 en_69 rfl rfl rfl) ?_
      rintro _ w ⟨rfl, hE⟩
      replace hF := hF.ext hE
      clear hE
      refine o_val (v := .bool (sameT x y)) (x_pickt rfl rfl) ?_
      refine o_val (v := .bool (sameT x y)) (x_assign rfl) ?_
      refine o_nil ?_
      refine e_seq ?_
      refine c_ret (e_ret (post_ret (res_1 (v := .bool (sameT x y)) rfl rfl) ?_))
      refine ⟨congrArg Value.bool ?_, hF.same⟩
      unfold SameV
      clear hF hR hR'
      simp_all
    ·
      refine o_off ?_
      refine o_off ?_
      refine o_off ?_
      refine o_val (v := .bool false) (x_pickf rfl rfl) ?_
      refine o_val (v := .bool false) (x_assign rfl) ?_
      refine o_nil ?_
      refine e_seq ?_
      refine c_ret (e_ret (post_ret (res_1 (v := .bool false) rfl rfl) ?_))
      refine ⟨congrArg Value.bool ?_, hF.same⟩
      unfold SameV
      clear hF hR hR'
      simp_all
  ·
    refine o_off ?_
    refine o_off ?_
    refine o_val (v := .bool false) (x_pickf rfl rfl) ?_
    refine o_val (v := .bool false) (x_move rfl) ?_
    refine o_off ?_
    refine o_off ?_
    refine o_off ?_
    refine o_val (v := .bool false) (x_pickf rfl rfl) ?_
    refine o_val (v := .bool false) (x_assign rfl) ?_
    refine o_nil ?_
    refine e_seq ?_
    refine c_ret (e_ret (post_ret (res_1 (v := .bool false) rfl rfl) ?_))
    refine ⟨congrArg Value.bool ?_, hF.same⟩
    unfold SameV
    clear hF hR hR'
    simp_all
set_option maxHeartbeats 1000000 in
set_option maxRecDepth 10000 in
theorem of_c (s : Str) (w0 : World) : Calls Tryz.prog 25 #[.string (bs s)] w0 (Ret fun v w' => v = .agg #[.int .i64 4, .string (bs s), .slice none 0 0, .slice none 0 0] ∧ Same [] w0 w') := by
  refine calls_start Tryz.func25 rfl Tryz.ntmps25 (Nat.le_of_ble_eq_true rfl) (args_1 _) ?_
  have hF := FR.start w0 []
  refine c_seq ?_
  refine c_region ?_
  refine o_alloc (cs := #[.int .i64 (0), .string (bs ([])), .slice (none) (0) (0), .slice (none) (0) (0)]) hF Tryz.zeroValue25 rfl ?_
  clear hF; intro b1 w hb1 hF hE
  clear hE
  refine o_nil ?_
  refine e_seq ?_
  refine c_seq ?_
  refine c_region ?_
  refine o_val (v := .string (bs (s))) (x_move rfl) ?_
  refine o_val (w' := w) (v := .agg #[.int .i64 (4), .string (bs (s)), .slice (none) (0) (0), .slice (none) (0) (0)]) (by kernel_rfl) ?_
  refine o_store 0 (l := [.int .i64 (4), .string (bs (s)), .slice (none) (0) (0), .slice (none) (0) (0)]) (cs' := #[.int .i64 (4), .string (bs (s)), .slice (none) (0) (0), .slice (none) (0) (0)]) hF Tryz.sizeOf25 rfl (v := .agg #[.int .i64 (4), .string (bs (s)), .slice (none) (0) (0), .slice (none) (0) (0)]) rfl rfl (by simp [one]) rfl (Nat.le_of_ble_eq_true rfl) rfl ?_
  clear hF; intro w hF hE
  clear hE
  replace hF : FR w0 [] [(b1, .cells #[.int .i64 (4), .string (bs (s)), .slice (none) (0) (0), .slice (none) (0) (0)] 25)] w := hF
  refine o_nil ?_
  refine e_seq ?_
  refine c_ret (e_ret (post_ret (res_c rfl (l := [.int .i64 (4), .string (bs (s)), .slice (none) (0) (0), .slice (none) (0) (0)]) rfl Tryz.isAgg25 Tryz.sizeOf25 rfl (hF.cellsAll 0 rfl)) ?_))
  exact ⟨rfl, hF.same⟩
set_option maxHeartbeats 1000000 in
set_option maxRecDepth 10000 in
theorem num_c (n : Int) (h1 : -9223372036854775808 ≤ n) (h2 : n ≤ 9223372036854775807) (w0 : World) (hG : Gl w0) : Calls Tryz.prog 39 #[.int .i64 n] w0 (Ret fun v w' => v = .agg #[.int .i64 3, .string (bs (textN (ofN n))), .slice none 0 0, .slice none 0 0] ∧ Same [] w0 w') := by
  refine calls_start Tryz.func39 rfl Tryz.ntmps39 (Nat.le_of_ble_eq_true rfl) (args_1 _) ?_
  have hF := FR.start w0 []
  refine c_seq ?_
  refine c_region ?_
  refine o_alloc (cs := #[.int .i64 (0), .string (bs ([])), .slice (none) (0) (0), .slice (none) (0) (0)]) hF Tryz.zeroValue25 rfl ?_
  clear hF; intro b1 w hb1 hF hE
  clear hE
  refine o_nil ?_
  refine e_seq ?_
  refine c_seq ?_
  refine c_region ?_
  refine o_val (v := .int .i64 (n)) (x_move rfl) ?_
  refine o_call (numOf_c n h1 h2 _ (hG.ext hF.same)) (x_call1 en_65 rfl rfl) ?_
  rintro _ w ⟨rfl, hE⟩
  replace hF := hF.ext hE
  clear hE
  refine o_call (text_c (ofN n) (by have := parseN_len (Lib.itoa n); exact Nat.le_trans this (by decide)) _ (hG.ext hF.same)) (x_call1 en_64 rfl rfl) ?_
  rintro _ w ⟨rfl, hE⟩
  replace hF := hF.ext hE
  clear hE
  refine o_val (w' := w) (v := .agg #[.int .i64 (3), .string (bs (textN (ofN n))), .slice (none) (0) (0), .slice (none) (0) (0)]) (by kernel_rfl) ?_
  refine o_store 0 (l := [.int .i64 (3), .string (bs (textN (ofN n))), .slice (none) (0) (0), .slice (none) (0) (0)]) (cs' := #[.int .i64 (3), .string (bs (textN (ofN n))), .slice (none) (0) (0), .slice (none) (0) (0)]) hF Tryz.sizeOf25 rfl (v := .agg #[.int .i64 (3), .string (bs (textN (ofN n))), .slice (none) (0) (0), .slice (none) (0) (0)]) rfl rfl (by simp [one]) rfl (Nat.le_of_ble_eq_true rfl) rfl ?_
  clear hF; intro w hF hE
  clear hE
  replace hF : FR w0 [] [(b1, .cells #[.int .i64 (3), .string (bs (textN (ofN n))), .slice (none) (0) (0), .slice (none) (0) (0)] 25)] w := hF
  refine o_nil ?_
  refine e_seq ?_
  refine c_ret (e_ret (post_ret (res_c rfl (l := [.int .i64 (3), .string (bs (textN (ofN n))), .slice (none) (0) (0), .slice (none) (0) (0)]) rfl Tryz.isAgg25 Tryz.sizeOf25 rfl (hF.cellsAll 0 rfl)) ?_))
  exact ⟨rfl, hF.same⟩
end Go.Scarf
