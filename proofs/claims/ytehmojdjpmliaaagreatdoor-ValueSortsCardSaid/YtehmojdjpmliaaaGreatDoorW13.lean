/- A part of the proof. -/
import Derived.Test.YtehmojdjpmliaaaGreatDoorW12
set_option linter.all false
namespace Go.Scarf
open Go.RowKit Go.Proofs
def cmpL {α : Type} (f : α → α → Int) : List α → List α → Int
  | [], [] => 0
  | [], _ :: _ => -1
  | _ :: _, [] => 1
  | x :: xs, y :: ys => if f x y ≠ 0 then f x y else cmpL f xs ys
theorem cmpL_step {α : Type} {f : α → α → Int} {xs ys : List α} {j : Nat} (h : j < xs.length) (h2 : j < ys.length) (hq : f xs[j] ys[j] = 0) : cmpL f (xs.drop j) (ys.drop j) = cmpL f (xs.drop (j + 1)) (ys.drop (j + 1)) := by
  rw [List.drop_eq_getElem_cons h, List.drop_eq_getElem_cons h2, cmpL, if_neg (by simpa using hq)]
theorem cmpL_at {α : Type} {f : α → α → Int} {xs ys : List α} {j : Nat} (h : j < xs.length) (h2 : j < ys.length) (hq : f xs[j] ys[j] ≠ 0) : cmpL f (xs.drop j) (ys.drop j) = f xs[j] ys[j] := by
  rw [List.drop_eq_getElem_cons h, List.drop_eq_getElem_cons h2, cmpL, if_pos hq]
theorem cmpL_more {α : Type} {f : α → α → Int} {xs ys : List α} {j : Nat} (h : j < xs.length) (h2 : ys.length ≤ j) : cmpL f (xs.drop j) (ys.drop j) = 1 := by
  rw [List.drop_eq_getElem_cons h, List.drop_eq_nil_of_le h2, cmpL]
theorem cmpL_less {α : Type} {f : α → α → Int} {xs ys : List α} {j : Nat} (h : xs.length ≤ j) (h2 : j < ys.length) : cmpL f (xs.drop j) (ys.drop j) = -1 := by
  rw [List.drop_eq_getElem_cons h2, List.drop_eq_nil_of_le h, cmpL]
theorem cmpL_end {α : Type} {f : α → α → Int} {xs ys : List α} {j : Nat} (h : xs.length ≤ j) (h2 : ys.length ≤ j) : cmpL f (xs.drop j) (ys.drop j) = 0 := by
  rw [List.drop_eq_nil_of_le h2, List.drop_eq_nil_of_le h, cmpL]
def BothI (w0 : World) (g : Nat) (xs ys : List Tree) (q : Tree → Tree → Int) : Prop := ∀ x, x ∈ xs → ∀ y, y ∈ ys → ∀ S S' w cs ct, Same [] w0 w → Rep S w (treeD x) cs → Rep S' w (treeD y) ct → Calls Tryz.prog g #[.agg cs.toArray, .agg ct.toArray] w (Ret fun v w' => v = .int .i64 (q x y) ∧ Same [] w w')
theorem BothI.ext {w0 w : World} {g : Nat} {xs ys : List Tree} {q : Tree → Tree → Int} (h : BothI w0 g xs ys q) (hs : Same [] w0 w) : BothI w g xs ys q := fun x hx y hy S S' w' cs ct hw => h x hx y hy S S' w' cs ct (hs.trans hw)
set_option maxHeartbeats 1000000 in
set_option maxRecDepth 10000 in
theorem compareTrees_c (q : Tree → Tree → Int) (xs ys : List Tree) (B B' : Option Addr) (e e' : Nat) (S S' : Nat → Prop) (w0 : World) (hX : Rep S w0 (.slice (treesD xs)) [.slice B xs.length e]) (hY : Rep S' w0 (.slice (treesD ys)) [.slice B' ys.length e']) (hq : BothI w0 68 xs ys q) : Calls Tryz.prog 134 #[.slice B xs.length e, .slice B' ys.length e', .func (.func 68) #[] #[]] w0 (Ret fun v w' => v = .int .i64 (cmpL q xs ys) ∧ Same [] w0 w') := by
  have hXl := hX.slice_len
  have hYl := hY.slice_len
  refine calls_start Tryz.func134 rfl Tryz.ntmps134 (Nat.le_of_ble_eq_true rfl) (args_3 _ _ _) ?_
  have hF := FR.start w0 []
  refine c_seq ?_
  refine c_region ?_
  refine o_val (v := .int .i64 (0)) (x_assign rfl) ?_
  refine o_nil ?_
  refine e_seq ?_
  refine c_seq ?_
  refine c_seq ?_
  refine c_region ?_
  refine o_val (v := .slice (B) (xs.length) (e)) (x_move rfl) ?_
  refine o_val (v := .int .i64 ((xs.length : Nat))) (x_len_slice Tryz.underlying23 rfl) ?_
  refine o_val (v := .int .i64 (0)) (x_move rfl) ?_
  refine o_nil ?_
  refine e_seq ?_
  refine c_block ?_
  refine c_loop (fun μ σ w => ∃ (j : Nat), μ = xs.length - j ∧ (j ≤ xs.length) ∧ (j ≤ ys.length) ∧ (cmpL q xs ys = cmpL q (xs.drop j) (ys.drop j)) ∧ AllEq σ [(0, .slice (B) (xs.length) (e)), (1, .slice (B') (ys.length) (e')), (2, .func (.func 68) #[] #[]), (11, .slice (B) (xs.length) (e)), (12, .int .i64 ((xs.length : Nat))), (13, .int .i64 ((j : Int)))] ∧ FR w0 [] [] w) _ ⟨0, rfl, (Nat.zero_le _), (Nat.zero_le _), (by simp), ⟨rfl, rfl, rfl, rfl, rfl, rfl, trivial⟩, hF⟩ ?_
  clear hF; rintro μ σ w ⟨j, rfl, hj, hj2, hc, hs, hF⟩
  refine Cg.slots hs ?_
  clear hs; intro σ
  refine c_seq ?_
  refine c_region ?_
  refine o_val (v := .bool (decide (((j : Int) : Int) < ((xs.length : Nat) : Int)))) (x_lss rfl rfl) ?_
  refine o_nil ?_
  refine e_seq ?_
  refine c_seq ?_
  refine c_splitd (d := 14) (p := ((j : Int) : Int) < ((xs.length : Nat) : Int)) rfl (fun hc0 => ?_) (fun hc0 => ?_)
  ·
    refine c_ift rfl ?_
    refine c_skip ?_
    refine e_seq ?_
    refine c_seq ?_
    refine c_block ?_
    refine c_seq ?_
    refine c_region ?_
    refine o_val (v := .int .i64 ((j : Int))) (x_move rfl) ?_
    obtain ⟨ad0, cs0, hA0, hl0, hk0, hx0⟩ := hX.tree_elem (i := j) (by omega)
    have ho0 := hx0.one_
    refine o_val (v := .pointer (some (ad0.add (j * 4)))) (x_indexAddrA (i := (j : Int)) sl_23 rfl hA0 rfl (by omega) (by omega)) ?_
    refine o_val (v := .agg (List.toArray cs0)) (x_loadS (l := cs0) Tryz.isAgg25 Tryz.sizeOf25 rfl hl0 (hF.cells0 hk0)) ?_
    refine o_alloc (cs := #[.int .i64 (0), .string (bs ([])), .slice (none) (0) (0), .slice (none) (0) (0)]) hF Tryz.zeroValue25 rfl ?_
    clear hF; intro b1 w hb1 hF hE
    clear hE
    refine o_val (v := .int .i64 ((j : Int))) (x_assign rfl) ?_
    refine o_store 0 (l := cs0) (cs' := (List.toArray cs0)) hF (by rw [hl0]; exact Tryz.sizeOf25) rfl (v := .agg (List.toArray cs0)) rfl rfl (ho0) rfl (by rw [hl0]; exact Nat.le_of_ble_eq_true rfl) (putA_all (by rw [hl0]; rfl)) ?_
    clear hF; intro w hF hE
    clear hE
    replace hF : FR w0 [] [(b1, .cells (List.toArray cs0) 25)] w := hF
    refine o_nil ?_
    refine e_seq ?_
    refine c_seq ?_
    refine c_seq ?_
    refine c_region ?_
    refine o_val (v := .int .i64 ((j : Int))) (x_move rfl) ?_
    refine o_val (v := .slice (B') (ys.length) (e')) (x_move rfl) ?_
    refine o_val (v := .int .i64 ((ys.length : Nat))) (x_len_slice Tryz.underlying23 rfl) ?_
    refine o_val (v := .bool (decide (((ys.length : Nat) : Int) ≤ ((j : Int) : Int)))) (x_geq rfl rfl) ?_
    refine o_nil ?_
    refine e_seq ?_
    refine c_splitd (d := 21) (p := ((ys.length : Nat) : Int) ≤ ((j : Int) : Int)) rfl (fun hc1 => ?_) (fun hc1 => ?_)
    ·
      refine c_ift rfl ?_
      refine c_seq ?_
      refine c_region ?_
      refine o_val (v := .int .i64 (1)) (x_assign rfl) ?_
      refine o_nil ?_
      refine e_seq ?_
      refine c_ret (e_ret (post_ret (res_1 (v := .int .i64 (1)) rfl rfl) ?_))
      exact ⟨congrArg (Value.int .i64) (by rw [hc, cmpL_more (by omega) (by omega)]), hF.same⟩
    ·
      refine c_iff rfl ?_
      refine c_skip ?_
      refine e_seq ?_
      refine c_seq ?_
      refine c_region ?_
      refine o_val (v := .slice (B') (ys.length) (e')) (x_move rfl) ?_
      refine o_val (v := .int .i64 ((j : Int))) (x_move rfl) ?_
      obtain ⟨ad1, cs1, hA1, hl1, hk1, hx1⟩ := hY.tree_elem (i := j) (by omega)
      have ho1 := hx1.one_
      refine o_val (v := .pointer (some (ad1.add (j * 4)))) (x_indexAddrA (i := (j : Int)) sl_23 rfl hA1 rfl (by omega) (by omega)) ?_
      refine o_val (v := .agg (List.toArray cs1)) (x_loadS (l := cs1) Tryz.isAgg25 Tryz.sizeOf25 rfl hl1 (hF.cells0 hk1)) ?_
      refine o_lay (l := cs1) hF Tryz.zeroValue25 (by rw [hl1]; exact Tryz.sizeOf25) (by rw [hl1]; rfl) (v := .agg (List.toArray cs1)) rfl rfl (ho1) rfl ?_
      clear hF; intro b2 w hb2 hF hE
      clear hE
      refine o_nil ?_
      refine e_seq ?_
      refine c_seq ?_
      refine c_region ?_
      refine o_val (v := .func (.func 68) #[] #[]) (x_move rfl) ?_
      refine o_val (v := .agg (List.toArray cs0)) (x_loadS (l := cs0) Tryz.isAgg25 Tryz.sizeOf25 rfl hl0 (hF.cellsAll 1 rfl)) ?_
      refine o_val (v := .agg (List.toArray cs1)) (x_loadS (l := cs1) Tryz.isAgg25 Tryz.sizeOf25 rfl hl1 (hF.cellsAll 0 rfl)) ?_
      refine o_call (hq _ (List.getElem_mem (l := xs) (n := j) (by omega)) _ (List.getElem_mem (l := ys) (n := j) (by omega)) _ _ _ _ _ hF.same (hF.rep hx0) (hF.rep hx1)) (x_callv2 rfl en_68 rfl rfl rfl) ?_
      rintro _ w ⟨rfl, hE⟩
      replace hF := hF.ext hE
      clear hE
      refine o_val (v := .int .i64 (q xs[j] ys[j])) (x_assign rfl) ?_
      refine o_nil ?_
      refine e_seq ?_
      refine c_seq ?_
      refine c_region ?_
      refine o_val (v := .int .i64 (q xs[j] ys[j])) (x_move rfl) ?_
      refine o_val (v := .bool (decide ((q xs[j] ys[j] : Int) ≠ (0 : Int)))) (x_neq rfl rfl) ?_
      refine o_nil ?_
      refine e_seq ?_
      refine c_splitd (d := 31) (p := (q xs[j] ys[j] : Int) ≠ (0 : Int)) rfl (fun hc2 => ?_) (fun hc2 => ?_)
      ·
        refine c_ift rfl ?_
        refine c_seq ?_
        refine c_region ?_
        refine o_val (v := .int .i64 (q xs[j] ys[j])) (x_move rfl) ?_
        refine o_val (v := .int .i64 (q xs[j] ys[j])) (x_assign rfl) ?_
        refine o_nil ?_
        refine e_seq ?_
        refine c_ret (e_ret (post_ret (res_1 (v := .int .i64 (q xs[j] ys[j])) rfl rfl) ?_))
        exact ⟨congrArg (Value.int .i64) (by rw [hc, cmpL_at (by omega) (by omega) (by simpa using hc2)]), hF.same⟩
      ·
        refine c_iff rfl ?_
        refine c_skip ?_
        refine e_block ?_
        refine e_seq ?_
        refine c_region ?_
        refine o_val (v := .int .i64 (((j : Int) : Int) + 1)) (x_add rfl rfl (wrap_id (by omega) (by omega))) ?_
        refine o_val (v := .int .i64 (((j : Int) : Int) + 1)) (x_move rfl) ?_
        refine o_nil ?_
        refine e_inv ⟨_, ?_, j + 1, rfl, (by omega), (by omega), (hc.trans (cmpL_step (by omega) (by omega) (by simpa using hc2))), ⟨rfl, rfl, rfl, rfl, rfl, rfl, trivial⟩, hF.drop 2⟩
        omega
  ·
    refine c_iff rfl ?_
    refine c_exit (e_exit rfl ?_)
    refine e_seq ?_
    refine c_seq ?_
    refine c_seq ?_
    refine c_region ?_
    refine o_val (v := .slice (B) (xs.length) (e)) (x_move rfl) ?_
    refine o_val (v := .int .i64 ((xs.length : Nat))) (x_len_slice Tryz.underlying23 rfl) ?_
    refine o_val (v := .slice (B') (ys.length) (e')) (x_move rfl) ?_
    refine o_val (v := .int .i64 ((ys.length : Nat))) (x_len_slice Tryz.underlying23 rfl) ?_
    refine o_val (v := .bool (decide (((xs.length : Nat) : Int) < ((ys.length : Nat) : Int)))) (x_lss rfl rfl) ?_
    refine o_nil ?_
    refine e_seq ?_
    refine c_splitd (d := 38) (p := ((xs.length : Nat) : Int) < ((ys.length : Nat) : Int)) rfl (fun hc3 => ?_) (fun hc3 => ?_)
    ·
      refine c_ift rfl ?_
      refine c_seq ?_
      refine c_region ?_
      refine o_val (v := .int .i64 ((-1))) (x_assign rfl) ?_
      refine o_nil ?_
      refine e_seq ?_
      refine c_ret (e_ret (post_ret (res_1 (v := .int .i64 ((-1))) rfl rfl) ?_))
      exact ⟨congrArg (Value.int .i64) (by rw [hc, cmpL_less (by omega) (by omega)]), hF.same⟩
    ·
      refine c_iff rfl ?_
      refine c_skip ?_
      refine e_seq ?_
      refine c_seq ?_
      refine c_region ?_
      refine o_val (v := .int .i64 (0)) (x_assign rfl) ?_
      refine o_nil ?_
      refine e_seq ?_
      refine c_ret (e_ret (post_ret (res_1 (v := .int .i64 (0)) rfl rfl) ?_))
      exact ⟨congrArg (Value.int .i64) (by rw [hc, cmpL_end (by omega) (by omega)]), hF.same⟩
set_option maxHeartbeats 1000000 in
set_option maxRecDepth 10000 in
theorem compareStrs_c (xs ys : List Str) (A A' : Option Addr) (c c' : Nat) (S S' : Nat → Prop) (w0 : World) (hX : Rep S w0 (strsD xs) [.slice A xs.length c]) (hY : Rep S' w0 (strsD ys) [.slice A' ys.length c']) : Calls Tryz.prog 133 #[.slice A xs.length c, .slice A' ys.length c', .func (.func 101) #[] #[]] w0 (Ret fun v w' => v = .int .i64 (cmpL Lib.compareBytes xs ys) ∧ Same [] w0 w') := by
  have hXl := hX.slice_len
  have hYl := hY.slice_len
  refine calls_start Tryz.func133 rfl Tryz.ntmps133 (Nat.le_of_ble_eq_true rfl) (args_3 _ _ _) ?_
  have hF := FR.start w0 []
  refine c_seq ?_
  refine c_region ?_
  refine o_val (v := .int .i64 (0)) (x_assign rfl) ?_
  refine o_nil ?_
  refine e_seq ?_
  refine c_seq ?_
  refine c_seq ?_
  refine c_region ?_
  refine o_val (v := .slice (A) (xs.length) (c)) (x_move rfl) ?_
  refine o_val (v := .int .i64 ((xs.length : Nat))) (x_len_slice Tryz.underlying22 rfl) ?_
  refine o_val (v := .int .i64 (0)) (x_move rfl) ?_
  refine o_nil ?_
  refine e_seq ?_
  refine c_block ?_
  refine c_loop (fun μ σ w => ∃ (j : Nat), μ = xs.length - j ∧ (j ≤ xs.length) ∧ (j ≤ ys.length) ∧ (cmpL Lib.compareBytes xs ys = cmpL Lib.compareBytes (xs.drop j) (ys.drop j)) ∧ AllEq σ [(0, .slice (A) (xs.length) (c)), (1, .slice (A') (ys.length) (c')), (2, .func (.func 101) #[] #[]), (11, .slice (A) (xs.length) (c)), (12, .int .i64 ((xs.length : Nat))), (13, .int .i64 ((j : Int)))] ∧ FR w0 [] [] w) _ ⟨0, rfl, (Nat.zero_le _), (Nat.zero_le _), (by simp), ⟨rfl, rfl, rfl, rfl, rfl, rfl, trivial⟩, hF⟩ ?_
  clear hF; rintro μ σ w ⟨j, rfl, hj, hj2, hc, hs, hF⟩
  refine Cg.slots hs ?_
  clear hs; intro σ
  refine c_seq ?_
  refine c_region ?_
  refine o_val (v := .bool (decide (((j : Int) : Int) < ((xs.length : Nat) : Int)))) (x_lss rfl rfl) ?_
  refine o_nil ?_
  refine e_seq ?_
  refine c_seq ?_
  refine c_splitd (d := 14) (p := ((j : Int) : Int) < ((xs.length : Nat) : Int)) rfl (fun hc0 => ?_) (fun hc0 => ?_)
  ·
    refine c_ift rfl ?_
    refine c_skip ?_
    refine e_seq ?_
    refine c_seq ?_
    refine c_block ?_
    refine c_seq ?_
    refine c_region ?_
    refine o_val (v := .int .i64 ((j : Int))) (x_move rfl) ?_
    obtain ⟨ad0, hA0, hk0, hx0⟩ := hX.str_elem (i := j) (by omega)
    refine o_val (v := .pointer (some (ad0.add (j * 1)))) (x_indexAddrA (i := (j : Int)) sl_22 rfl hA0 rfl (by omega) (by omega)) ?_
    refine o_val (v := .string (bs (xs[j]))) (x_load Tryz.isAgg9 rfl (hF.cell0 hk0)) ?_
    refine o_val (v := .int .i64 ((j : Int))) (x_assign rfl) ?_
    refine o_val (v := .string (bs (xs[j]))) (x_assign rfl) ?_
    refine o_nil ?_
    refine e_seq ?_
    refine c_seq ?_
    refine c_seq ?_
    refine c_region ?_
    refine o_val (v := .int .i64 ((j : Int))) (x_move rfl) ?_
    refine o_val (v := .slice (A') (ys.length) (c')) (x_move rfl) ?_
    refine o_val (v := .int .i64 ((ys.length : Nat))) (x_len_slice Tryz.underlying22 rfl) ?_
    refine o_val (v := .bool (decide (((ys.length : Nat) : Int) ≤ ((j : Int) : Int)))) (x_geq rfl rfl) ?_
    refine o_nil ?_
    refine e_seq ?_
    refine c_splitd (d := 21) (p := ((ys.length : Nat) : Int) ≤ ((j : Int) : Int)) rfl (fun hc1 => ?_) (fun hc1 => ?_)
    ·
      refine c_ift rfl ?_
      refine c_seq ?_
      refine c_region ?_
      refine o_val (v := .int .i64 (1)) (x_assign rfl) ?_
      refine o_nil ?_
      refine e_seq ?_
      refine c_ret (e_ret (post_ret (res_1 (v := .int .i64 (1)) rfl rfl) ?_))
      exact ⟨congrArg (Value.int .i64) (by rw [hc, cmpL_more (by omega) (by omega)]), hF.same⟩
    ·
      refine c_iff rfl ?_
      refine c_skip ?_
      refine e_seq ?_
      refine c_seq ?_
      refine c_region ?_
      refine o_val (v := .slice (A') (ys.length) (c')) (x_move rfl) ?_
      refine o_val (v := .int .i64 ((j : Int))) (x_move rfl) ?_
      obtain ⟨ad1, hA1, hk1, hx1⟩ := hY.str_elem (i := j) (by omega)
      refine o_val (v := .pointer (some (ad1.add (j * 1)))) (x_indexAddrA (i := (j : Int)) sl_22 rfl hA1 rfl (by omega) (by omega)) ?_
      refine o_val (v := .string (bs (ys[j]))) (x_load Tryz.isAgg9 rfl (hF.cell0 hk1)) ?_
      refine o_val (v := .string (bs (ys[j]))) (x_assign rfl) ?_
      refine o_nil ?_
      refine e_seq ?_
      refine c_seq ?_
      refine c_region ?_
      refine o_val (v := .func (.func 101) #[] #[]) (x_move rfl) ?_
      refine o_val (v := .string (bs (xs[j]))) (x_move rfl) ?_
      refine o_val (v := .string (bs (ys[j]))) (x_move rfl) ?_
      refine o_call (compareS_c xs[j] ys[j] _) (x_callv2 rfl en_101 rfl rfl rfl) ?_
      rintro _ w ⟨rfl, hE⟩
      replace hF := hF.ext hE
      clear hE
      refine o_val (v := .int .i64 (Lib.compareBytes xs[j] ys[j])) (x_assign rfl) ?_
      refine o_nil ?_
      refine e_seq ?_
      refine c_seq ?_
      refine c_region ?_
      refine o_val (v := .int .i64 (Lib.compareBytes xs[j] ys[j])) (x_move rfl) ?_
      refine o_val (v := .bool (decide ((Lib.compareBytes xs[j] ys[j] : Int) ≠ (0 : Int)))) (x_neq rfl rfl) ?_
      refine o_nil ?_
      refine e_seq ?_
      refine c_splitd (d := 31) (p := (Lib.compareBytes xs[j] ys[j] : Int) ≠ (0 : Int)) rfl (fun hc2 => ?_) (fun hc2 => ?_)
      ·
        refine c_ift rfl ?_
        refine c_seq ?_
        refine c_region ?_
        refine o_val (v := .int .i64 (Lib.compareBytes xs[j] ys[j])) (x_move rfl) ?_
        refine o_val (v := .int .i64 (Lib.compareBytes xs[j] ys[j])) (x_assign rfl) ?_
        refine o_nil ?_
        refine e_seq ?_
        refine c_ret (e_ret (post_ret (res_1 (v := .int .i64 (Lib.compareBytes xs[j] ys[j])) rfl rfl) ?_))
        exact ⟨congrArg (Value.int .i64) (by rw [hc, cmpL_at (by omega) (by omega) (by simpa using hc2)]), hF.same⟩
      ·
        refine c_iff rfl ?_
        refine c_skip ?_
        refine e_block ?_
        refine e_seq ?_
        refine c_region ?_
        refine o_val (v := .int .i64 (((j : Int) : Int) + 1)) (x_add rfl rfl (wrap_id (by omega) (by omega))) ?_
        refine o_val (v := .int .i64 (((j : Int) : Int) + 1)) (x_move rfl) ?_
        refine o_nil ?_
        refine e_inv ⟨_, ?_, j + 1, rfl, (by omega), (by omega), (hc.trans (cmpL_step (by omega) (by omega) (by simpa using hc2))), ⟨rfl, rfl, rfl, rfl, rfl, rfl, trivial⟩, hF⟩
        omega
  ·
    refine c_iff rfl ?_
    refine c_exit (e_exit rfl ?_)
    refine e_seq ?_
    refine c_seq ?_
    refine c_seq ?_
    refine c_region ?_
    refine o_val (v := .slice (A) (xs.length) (c)) (x_move rfl) ?_
    refine o_val (v := .int .i64 ((xs.length : Nat))) (x_len_slice Tryz.underlying22 rfl) ?_
    refine o_val (v := .slice (A') (ys.length) (c')) (x_move rfl) ?_
    refine o_val (v := .int .i64 ((ys.length : Nat))) (x_len_slice Tryz.underlying22 rfl) ?_
    refine o_val (v := .bool (decide (((xs.length : Nat) : Int) < ((ys.length : Nat) : Int)))) (x_lss rfl rfl) ?_
    refine o_nil ?_
    refine e_seq ?_
    refine c_splitd (d := 38) (p := ((xs.length : Nat) : Int) < ((ys.length : Nat) : Int)) rfl (fun hc3 => ?_) (fun hc3 => ?_)
    ·
      refine c_ift rfl ?_
      refine c_seq ?_
      refine c_region ?_
      refine o_val (v := .int .i64 ((-1))) (x_assign rfl) ?_
      refine o_nil ?_
      refine e_seq ?_
      refine c_ret (e_ret (post_ret (res_1 (v := .int .i64 ((-1))) rfl rfl) ?_))
      exact ⟨congrArg (Value.int .i64) (by rw [hc, cmpL_less (by omega) (by omega)]), hF.same⟩
    ·
      refine c_iff rfl ?_
      refine c_skip ?_
      refine e_seq ?_
      refine c_seq ?_
      refine c_region ?_
      refine o_val (v := .int .i64 (0)) (x_assign rfl) ?_
      refine o_nil ?_
      refine e_seq ?_
      refine c_ret (e_ret (post_ret (res_1 (v := .int .i64 (0)) rfl rfl) ?_))
      exact ⟨congrArg (Value.int .i64) (by rw [hc, cmpL_end (by omega) (by omega)]), hF.same⟩
set_option maxHeartbeats 1000000 in
set_option maxRecDepth 10000 in
theorem rowsS_c (xs ys : List Str) (A A' : Option Addr) (c c' : Nat) (S S' : Nat → Prop) (w0 : World) (hX : Rep S w0 (strsD xs) [.slice A xs.length c]) (hY : Rep S' w0 (strsD ys) [.slice A' ys.length c']) : Calls Tryz.prog 102 #[.slice A xs.length c, .slice A' ys.length c', .func (.func 101) #[] #[]] w0 (Ret fun v w' => v = .int .i64 (cmpL Lib.compareBytes xs ys) ∧ Same [] w0 w') := by
  refine calls_start Tryz.func102 rfl Tryz.ntmps102 (Nat.le_of_ble_eq_true rfl) (args_3 _ _ _) ?_
  have hF := FR.start w0 []
  refine c_seq ?_
  refine c_region ?_
  refine o_val (v := .int .i64 (0)) (x_assign rfl) ?_
  refine o_nil ?_
  refine e_seq ?_
  refine c_seq ?_
  refine c_region ?_
  refine o_val (v := .slice (A) (xs.length) (c)) (x_move rfl) ?_
  refine o_val (v := .slice (A') (ys.length) (c')) (x_move rfl) ?_
  refine o_val (v := .func (.func 101) #[] #[]) (x_move rfl) ?_
  refine o_call (compareStrs_c xs ys A A' c c' S S' _ (hF.rep hX) (hF.rep hY)) (x_call3 en_133 rfl rfl rfl rfl) ?_
  rintro _ w ⟨rfl, hE⟩
  replace hF := hF.ext hE
  clear hE
  refine o_val (v := .int .i64 (cmpL Lib.compareBytes xs ys)) (x_assign rfl) ?_
  refine o_nil ?_
  refine e_seq ?_
  refine c_ret (e_ret (post_ret (res_1 (v := .int .i64 (cmpL Lib.compareBytes xs ys)) rfl rfl) ?_))
  exact ⟨rfl, hF.same⟩
set_option maxHeartbeats 1000000 in
set_option maxRecDepth 10000 in
theorem rowsT_c (q : Tree → Tree → Int) (xs ys : List Tree) (B B' : Option Addr) (e e' : Nat) (S S' : Nat → Prop) (w0 : World) (hX : Rep S w0 (.slice (treesD xs)) [.slice B xs.length e]) (hY : Rep S' w0 (.slice (treesD ys)) [.slice B' ys.length e']) (hq : BothI w0 68 xs ys q) : Calls Tryz.prog 103 #[.slice B xs.length e, .slice B' ys.length e', .func (.func 68) #[] #[]] w0 (Ret fun v w' => v = .int .i64 (cmpL q xs ys) ∧ Same [] w0 w') := by
  refine calls_start Tryz.func103 rfl Tryz.ntmps103 (Nat.le_of_ble_eq_true rfl) (args_3 _ _ _) ?_
  have hF := FR.start w0 []
  refine c_seq ?_
  refine c_region ?_
  refine o_val (v := .int .i64 (0)) (x_assign rfl) ?_
  refine o_nil ?_
  refine e_seq ?_
  refine c_seq ?_
  refine c_region ?_
  refine o_val (v := .slice (B) (xs.length) (e)) (x_move rfl) ?_
  refine o_val (v := .slice (B') (ys.length) (e')) (x_move rfl) ?_
  refine o_val (v := .func (.func 68) #[] #[]) (x_move rfl) ?_
  refine o_call (compareTrees_c q xs ys B B' e e' S S' _ (hF.rep hX) (hF.rep hY) (hq.ext hF.same)) (x_call3 en_134 rfl rfl rfl rfl) ?_
  rintro _ w ⟨rfl, hE⟩
  replace hF := hF.ext hE
  clear hE
  refine o_val (v := .int .i64 (cmpL q xs ys)) (x_assign rfl) ?_
  refine o_nil ?_
  refine e_seq ?_
  refine c_ret (e_ret (post_ret (res_1 (v := .int .i64 (cmpL q xs ys)) rfl rfl) ?_))
  exact ⟨rfl, hF.same⟩
end Go.Scarf
