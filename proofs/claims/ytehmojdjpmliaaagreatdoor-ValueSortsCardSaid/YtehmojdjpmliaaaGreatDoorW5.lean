/- A part of the proof. -/
import Derived.Test.YtehmojdjpmliaaaGreatDoorW4
import Derived.Test.YtehmojdjpmliaaaGreatDoorMap
set_option linter.all false
namespace Go.Scarf
open Go.RowKit Go.Proofs
def keyedB (ks : List Str) (n : Int) : Bool := decide ks.Nodup && ks.all Lib.validD && decide ((ks.length : Int) = n)
def keysM (ks : List Str) : MapL := ks.map fun k => (k, .bool true)
theorem lookM_keys (ks : List Str) (k : Str) : lookM (keysM ks) k = if k ∈ ks then some (.bool true) else none := by
  induction ks with
  | nil => rfl
  | cons a r ih =>
    have e : keysM (a :: r) = [(a, .bool true)] ++ keysM r := rfl
    rw [e, lookM_append, ih]
    by_cases h : a = k
    · subst h; simp [lookM]
    · have h' : ¬ k = a := fun e => h e.symm
      simp [lookM, h, h']
theorem keysM_take (ks : List Str) (j : Nat) (h : j < ks.length) : keysM (ks.take j) ++ [(ks[j], .bool true)] = keysM (ks.take (j + 1)) := by
  unfold keysM; rw [List.take_succ_eq_append_getElem h, List.map_append]; rfl
theorem nodup_take_succ {ks : List Str} {j : Nat} (h : j < ks.length) (hn : (ks.take j).Nodup) (hi : ¬ ks[j] ∈ ks.take j) : (ks.take (j + 1)).Nodup := by
  rw [List.take_succ_eq_append_getElem h, List.nodup_append]
  refine ⟨hn, by simp, ?_⟩
  intro a ha b hb e
  simp only [List.mem_singleton] at hb
  subst e; subst hb; exact hi ha
theorem not_nodup_of {ks : List Str} {j : Nat} (h : j < ks.length) (hi : ks[j] ∈ ks.take j) : ¬ ks.Nodup := by
  intro hn
  obtain ⟨i, hi', he⟩ := List.getElem_of_mem hi
  rw [List.getElem_take] at he
  have hi2 : i < j := by rw [List.length_take] at hi'; omega
  have := (List.pairwise_iff_getElem.1 hn) i j (by omega) h hi2
  exact this he
theorem take_succ_all {f : Str → Bool} {ks : List Str} {j : Nat} (h : j < ks.length) (ha : (ks.take j).all f = true) (hv : f ks[j] = true) : (ks.take (j + 1)).all f = true := by
  rw [List.take_succ_eq_append_getElem h, List.all_append, ha]; simp [hv]
theorem not_all {f : Str → Bool} {ks : List Str} {j : Nat} (h : j < ks.length) (hv : f ks[j] = false) : ks.all f = false := by
  rw [Bool.eq_false_iff]; intro ha
  have := List.all_eq_true.1 ha ks[j] (List.getElem_mem h)
  rw [hv] at this; cases this
set_option maxHeartbeats 1000000 in
set_option maxRecDepth 10000 in
theorem keyed_c (ks : List Str) (n : Int) (S : Nat → Prop) (A : Option Addr) (c : Nat) (hl : ∀ k ∈ ks, k.length ≤ 140737488355328) (w0 : World) (hG : Gl w0) (hX : Rep S w0 (strsD ks) [.slice A ks.length c]) : Calls Tryz.prog 86 #[.slice A ks.length c, .int .i64 n] w0 (Ret fun v w' => v = .bool (keyedB ks n) ∧ Same [] w0 w') := by
  have hXl := hX.slice_len
  refine calls_start Tryz.func86 rfl Tryz.ntmps86 (Nat.le_of_ble_eq_true rfl) (args_2 _ _) ?_
  have hF := FR.start w0 []
  refine c_seq ?_
  refine c_region ?_
  refine o_val (v := .bool false) (x_assign rfl) ?_
  refine o_nil ?_
  refine e_seq ?_
  refine c_seq ?_
  refine c_region ?_
  refine o_val (v := .slice (A) (ks.length) (c)) (x_move rfl) ?_
  refine o_val (v := .int .i64 ((ks.length : Nat))) (x_len_slice Tryz.underlying22 rfl) ?_
  refine o_new (v := fun b => .map (some b)) hF (x_makeMap Tryz.underlying106 rfl) ?_
  clear hF; intro b1 w hb1 hF hE
  clear hE
  refine o_val (v := .map (some b1)) (x_assign rfl) ?_
  refine o_nil ?_
  refine e_seq ?_
  refine c_seq ?_
  refine c_seq ?_
  refine c_region ?_
  refine o_val (v := .slice (A) (ks.length) (c)) (x_move rfl) ?_
  refine o_val (v := .int .i64 ((ks.length : Nat))) (x_len_slice Tryz.underlying22 rfl) ?_
  refine o_val (v := .int .i64 (0)) (x_move rfl) ?_
  refine o_nil ?_
  refine e_seq ?_
  refine c_block ?_
  replace hF : FR w0 [] [(b1, mapO (keysM (ks.take 0)))] w := hF
  refine c_loop (fun μ σ w => ∃ (j : Nat), μ = ks.length - j ∧ (j ≤ ks.length) ∧ ((ks.take j).Nodup) ∧ ((ks.take j).all Lib.validD = true) ∧ AllEq σ [(0, .slice (A) (ks.length) (c)), (1, .int .i64 (n)), (5, .map (some b1)), (11, .slice (A) (ks.length) (c)), (12, .int .i64 ((ks.length : Nat))), (13, .int .i64 ((j : Int)))] ∧ FR w0 [] [(b1, mapO (keysM (ks.take j)))] w) _ ⟨0, rfl, (Nat.zero_le _), (by simp), (by simp), ⟨rfl, rfl, rfl, rfl, rfl, rfl, trivial⟩, hF⟩ ?_
  clear hF; rintro μ σ w ⟨j, rfl, hj, hd, hv, hs, hF⟩
  refine Cg.slots hs ?_
  clear hs; intro σ
  refine c_seq ?_
  refine c_region ?_
  refine o_val (v := .bool (decide (((j : Int) : Int) < ((ks.length : Nat) : Int)))) (x_lss rfl rfl) ?_
  refine o_nil ?_
  refine e_seq ?_
  refine c_seq ?_
  refine c_splitd (d := 14) (p := ((j : Int) : Int) < ((ks.length : Nat) : Int)) rfl (fun hc0 => ?_) (fun hc0 => ?_)
  ·
    refine c_ift rfl ?_
    refine c_skip ?_
    refine e_seq ?_
    refine c_seq ?_
    refine c_block ?_
    refine c_seq ?_
    refine c_region ?_
    obtain ⟨ad0, hA0, hk0, hx0⟩ := hX.str_elem (i := j) (by omega)
    refine o_val (v := .pointer (some (ad0.add (j * 1)))) (x_indexAddrA (i := (j : Int)) sl_22 rfl hA0 rfl (by omega) (by omega)) ?_
    refine o_val (v := .string (bs (ks[j]))) (x_load Tryz.isAgg9 rfl (hF.cell0 hk0)) ?_
    refine o_val (v := .string (bs (ks[j]))) (x_assign rfl) ?_
    refine o_nil ?_
    refine e_seq ?_
    refine c_seq ?_
    refine c_seq ?_
    refine c_region ?_
    refine o_val (v := .map (some b1)) (x_move rfl) ?_
    refine o_val (v := .string (bs (ks[j]))) (x_move rfl) ?_
    refine o_val (v := .bool (decide (ks[j] ∈ ks.take j))) (x_lookupE Tryz.underlying106 Tryz.underlying9 Tryz.zeroValue4 rfl rfl (hF.heap (i := 0) rfl) (by rw [lookM_keys]; split <;> rename_i hh <;> simp only [hh, decide_true, decide_false] <;> rfl)) ?_
    refine o_val (v := .bool (decide (ks[j] ∈ ks.take j))) (x_move rfl) ?_
    refine o_splitd (d := 20) (p := ks[j] ∈ ks.take j) rfl (fun hg1 => ?_) (fun hg1 => ?_)
    ·
      refine o_off ?_
      refine o_off ?_
      refine o_off ?_
      refine o_val (v := .bool true) (x_pickt rfl rfl) ?_
      refine o_nil ?_
      refine e_seq ?_
      refine c_ift rfl ?_
      refine c_seq ?_
      refine c_region ?_
      refine o_val (v := .bool false) (x_assign rfl) ?_
      refine o_nil ?_
      refine e_seq ?_
      refine c_ret (e_ret (post_ret (res_1 (v := .bool false) rfl rfl) ?_))
      have := not_nodup_of (ks := ks) (j := j) (by omega) (by assumption)
      exact ⟨congrArg Value.bool (by unfold keyedB; rw [decide_eq_false this]; rfl), hF.same⟩
    ·
      refine o_val (v := .string (bs (ks[j]))) (x_move rfl) ?_
      refine o_call (plain_c ks[j] (hl _ (List.getElem_mem _)) _ (hG.ext hF.same)) (x_call1 en_88 rfl rfl) ?_
      rintro _ w ⟨rfl, hE⟩
      replace hF := hF.ext hE
      clear hE
      refine o_val (v := .bool (!(Lib.validD ks[j]))) (x_not rfl) ?_
      refine o_val (v := .bool (!(Lib.validD ks[j]))) (x_pickf rfl rfl) ?_
      refine o_nil ?_
      refine e_seq ?_
      refine c_split (d := 24) (b := !(Lib.validD ks[j])) rfl (fun hc1 => ?_) (fun hc1 => ?_)
      ·
        refine c_ift rfl ?_
        refine c_seq ?_
        refine c_region ?_
        refine o_val (v := .bool false) (x_assign rfl) ?_
        refine o_nil ?_
        refine e_seq ?_
        refine c_ret (e_ret (post_ret (res_1 (v := .bool false) rfl rfl) ?_))
        have := not_all (f := Lib.validD) (ks := ks) (j := j) (by omega) (by simpa using hc1)
        exact ⟨congrArg Value.bool (by unfold keyedB; rw [this, Bool.and_false]; rfl), hF.same⟩
      ·
        refine c_iff rfl ?_
        refine c_skip ?_
        refine e_seq ?_
        refine c_region ?_
        refine o_val (v := .map (some b1)) (x_move rfl) ?_
        refine o_val (v := .string (bs (ks[j]))) (x_move rfl) ?_
        refine o_mapUpdate 0 (v := .bool true) hF Tryz.underlying106 Tryz.underlying9 rfl rfl rfl rfl (by rw [lookM_keys, if_neg (by assumption)]) ?_
        clear hF; intro w hF hE
        clear hE
        rw [keysM_take ks j (by omega)] at hF
        replace hF : FR w0 [] [(b1, mapO (keysM (ks.take (j + 1))))] w := hF
        refine o_nil ?_
        refine e_block ?_
        refine e_seq ?_
        refine c_region ?_
        refine o_val (v := .int .i64 (((j : Int) : Int) + 1)) (x_add rfl rfl (wrap_id (by omega) (by omega))) ?_
        refine o_val (v := .int .i64 (((j : Int) : Int) + 1)) (x_move rfl) ?_
        refine o_nil ?_
        refine e_inv ⟨_, ?_, j + 1, rfl, (by omega), (nodup_take_succ (by omega) hd (by assumption)), (take_succ_all (by omega) hv (by simpa using hc1)), ⟨rfl, rfl, rfl, rfl, rfl, rfl, trivial⟩, hF⟩
        omega
  ·
    refine c_iff rfl ?_
    refine c_exit (e_exit rfl ?_)
    refine e_seq ?_
    refine c_seq ?_
    refine c_region ?_
    refine o_val (v := .slice (A) (ks.length) (c)) (x_move rfl) ?_
    refine o_val (v := .int .i64 ((ks.length : Nat))) (x_len_slice Tryz.underlying22 rfl) ?_
    refine o_val (v := .int .i64 (n)) (x_move rfl) ?_
    refine o_val (v := .bool (decide (((ks.length : Nat) : Int) = (n : Int)))) (x_eql rfl rfl) ?_
    refine o_val (v := .bool (decide (((ks.length : Nat) : Int) = (n : Int)))) (x_assign rfl) ?_
    refine o_nil ?_
    refine e_seq ?_
    refine c_ret (e_ret (post_ret (res_1 (v := .bool (decide (((ks.length : Nat) : Int) = (n : Int)))) rfl rfl) ?_))
    obtain rfl : j = ks.length := by omega
    rw [List.take_length] at hd hv
    exact ⟨congrArg Value.bool (by unfold keyedB; rw [hv, decide_eq_true hd]; rfl), hF.same⟩
end Go.Scarf
