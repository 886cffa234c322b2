/- A part of the proof. -/
import Derived.Test.YtpliibolgknenaaGreatDoorX9
import Derived.Test.YtpliibolgknenaaGreatDoorZ18
import Derived.Test.YtpliibolgknenaaGreatDoorW4
set_option linter.all false
namespace Go.Scarf
open Go.RowKit Go.Proofs
theorem rowsT_elem {S : Nat → Prop} {w : World} {la lb : List Str} {fa fb : List Int} {n len c : Nat} {A : Option Addr} (h : Rep S w (.slice (rowsT la fa lb fb n)) [.slice A len c]) {i : Nat} (hi : i < n) :
    ∃ ad B e, A = some ad ∧ w.cell? (ad.add (i * 1)) = some (.slice B lb.length e) ∧ Rep S w (.slice ((rowT la fa lb fb i lb.length).map intD)) [.slice B (rowT la fa lb fb i lb.length).length e] := by
  obtain ⟨ad, v, hA, hc, hr⟩ := Rep.elem1 h (fun d hd => by obtain ⟨k, _, rfl⟩ := List.mem_map.1 hd; rfl) (i := i) (by rw [rowsT_len]; exact hi)
  simp only [rowsT, List.getElem_map, List.getElem_range] at hr
  obtain ⟨B, e, he⟩ := Rep.slice_is hr
  rw [List.length_map] at he
  subst he
  exact ⟨ad, B, e, hA, by rw [hc, rowT_len], hr⟩
theorem grid_rep {w : World} {pb n m : Nat} {T1 T2 : TypeId} {q : Nat → Nat} {P : Nat → Nat → Int} (hG : Grid2 w pb n m T1 T2 q P) {i : Nat} (hi : i < n) {xs : List Int} (hl : xs.length = m) (hm : m ≤ maxLen) (hx : ∀ j (h : j < xs.length), P i j = xs[j]) (hr : ∀ s ∈ xs, -9223372036854775808 ≤ s ∧ s ≤ 9223372036854775807) : Rep (fun _ => True) w (.slice (xs.map intD)) [.slice (some ⟨q i, 0, none⟩) xs.length m] := by
  refine Rep.slice_mk (by simp) (by omega) hm fun _ => ?_
  refine ⟨_, rfl, xs.map fun s => Value.int .i64 s, fun j hj => ⟨?_, trivial⟩, ints_lits hr⟩
  have hj' : j < xs.length := by simpa using hj
  have h1 := hG.cell (i := i) (j := j) hi (by omega)
  rw [hx j hj'] at h1
  have e : (⟨q i, 0, none⟩ : Addr).add j = ⟨q i, j, none⟩ := by
    unfold Addr.add
    split <;> simp_all
  rw [e, h1, List.getElem_map]
set_option maxHeartbeats 4000000 in
set_option maxRecDepth 10000 in
theorem tedCosts_no (w0 : World) (hG : Gl w0) (l0 : List Str) (f0 : List Int) (A0 : Option Addr) (c0 : Nat) (B0 : Option Addr) (e0 : Nat) (r0 : Rep (fun _ => True) w0 (strsD l0) [.slice A0 l0.length c0]) (q0 : Rep (fun _ => True) w0 (.slice (f0.map intD)) [.slice B0 f0.length e0]) (l1 : List Str) (f1 : List Int) (A1 : Option Addr) (c1 : Nat) (B1 : Option Addr) (e1 : Nat) (r1 : Rep (fun _ => True) w0 (strsD l1) [.slice A1 l1.length c1]) (q1 : Rep (fun _ => True) w0 (.slice (f1.map intD)) [.slice B1 f1.length e1]) (hR : ¬ (RightT l0 f0 ∧ RightT l1 f1)) : Calls Tryz.prog 6 #[.agg #[.slice A0 l0.length c0, .slice B0 f0.length e0], .agg #[.slice A1 l1.length c1, .slice B1 f1.length e1]] w0 (Ret fun v w' => v = .bool true ∧ Same [] w0 w') := by
  have hl0 := r0.slice_len
  have hf0 := q0.slice_len
  rw [List.length_map] at hf0
  have hl1 := r1.slice_len
  have hf1 := q1.slice_len
  rw [List.length_map] at hf1
  refine calls_start Tryz.func6 rfl Tryz.ntmps6 (Nat.le_of_ble_eq_true rfl) (args_2 _ _) ?_
  have hF := FR.start w0 []
  refine c_seq ?_
  refine c_region ?_
  refine o_box (v := .agg #[.slice (A0) (l0.length) (c0), .slice (B0) (f0.length) (e0)]) (cs := #[.slice (A0) (l0.length) (c0), .slice (B0) (f0.length) (e0)]) hF rfl rfl ?_
  clear hF; intro b1 w hb1 hF hE
  clear hE
  refine o_box (v := .agg #[.slice (A1) (l1.length) (c1), .slice (B1) (f1.length) (e1)]) (cs := #[.slice (A1) (l1.length) (c1), .slice (B1) (f1.length) (e1)]) hF rfl rfl ?_
  clear hF; intro b2 w hb2 hF hE
  clear hE
  refine o_val (v := .bool false) (x_assign rfl) ?_
  refine o_nil ?_
  refine e_seq ?_
  refine c_seq ?_
  refine c_region ?_
  refine o_call (small16_c _ (hG.ext hF.same)) (x_call0 en_8 rfl) ?_
  rintro _ w ⟨rfl, hE⟩
  replace hF := hF.ext hE
  clear hE
  refine o_val (v := .bool true) (x_assign rfl) ?_
  refine o_nil ?_
  refine e_seq ?_
  refine c_seq ?_
  refine c_region ?_
  refine o_val (v := .agg #[.slice (A0) (l0.length) (c0), .slice (B0) (f0.length) (e0)]) (x_loadS (l := [.slice (A0) (l0.length) (c0), .slice (B0) (f0.length) (e0)]) Tryz.isAgg30 Tryz.sizeOf30 rfl rfl (hF.cellsAll 1 rfl)) ?_
  refine o_call (fewN_c _ _ l0 f0 A0 B0 c0 e0 (hF.rep r0) (hF.rep q0) 12) (x_call2 en_13 rfl rfl rfl) ?_
  rintro _ w ⟨rfl, hE⟩
  replace hF := hF.ext hE
  clear hE
  refine o_val (v := .bool (fewN l0 f0 12)) (x_move rfl) ?_
  refine o_split (d := 20) (b := fewN l0 f0 12) rfl (fun hg0 => ?_) (fun hg0 => ?_)
  ·
    refine o_val (v := .agg #[.slice (A1) (l1.length) (c1), .slice (B1) (f1.length) (e1)]) (x_loadS (l := [.slice (A1) (l1.length) (c1), .slice (B1) (f1.length) (e1)]) Tryz.isAgg30 Tryz.sizeOf30 rfl rfl (hF.cellsAll 0 rfl)) ?_
    refine o_call (fewN_c _ _ l1 f1 A1 B1 c1 e1 (hF.rep r1) (hF.rep q1) 12) (x_call2 en_13 rfl rfl rfl) ?_
    rintro _ w ⟨rfl, hE⟩
    replace hF := hF.ext hE
    clear hE
    refine o_val (v := .bool (fewN l1 f1 12)) (x_pickt rfl rfl) ?_
    refine o_val (v := .bool (fewN l1 f1 12)) (x_assign rfl) ?_
    refine o_nil ?_
    refine e_seq ?_
    refine c_seq ?_
    refine c_seq ?_
    refine c_region ?_
    refine o_val (v := .bool (fewN l1 f1 12)) (x_move rfl) ?_
    refine o_val (v := .bool (!(fewN l1 f1 12))) (x_not rfl) ?_
    refine o_nil ?_
    refine e_seq ?_
    refine c_split (d := 25) (b := !(fewN l1 f1 12)) rfl (fun hc0 => ?_) (fun hc0 => ?_)
    ·
      refine c_ift rfl ?_
      refine c_seq ?_
      refine c_region ?_
      refine o_val (v := .bool true) (x_move rfl) ?_
      refine o_val (v := .bool true) (x_assign rfl) ?_
      refine o_nil ?_
      refine e_seq ?_
      refine c_ret (e_ret (post_ret (res_1 (v := .bool true) rfl rfl) ?_))
      exact ⟨rfl, hF.same⟩
    ·
      refine c_iff rfl ?_
      refine c_skip ?_
      refine e_seq ?_
      refine c_seq ?_
      refine c_region ?_
      refine o_val (v := .agg #[.slice (A0) (l0.length) (c0), .slice (B0) (f0.length) (e0)]) (x_loadS (l := [.slice (A0) (l0.length) (c0), .slice (B0) (f0.length) (e0)]) Tryz.isAgg30 Tryz.sizeOf30 rfl rfl (hF.cellsAll 1 rfl)) ?_
      refine o_val (v := .agg #[.slice (A1) (l1.length) (c1), .slice (B1) (f1.length) (e1)]) (x_loadS (l := [.slice (A1) (l1.length) (c1), .slice (B1) (f1.length) (e1)]) Tryz.isAgg30 Tryz.sizeOf30 rfl rfl (hF.cellsAll 0 rfl)) ?_
      refine o_call (cost_no _ _ _ l0 f0 A0 B0 c0 e0 (hF.rep r0) (hF.rep q0) l1 f1 A1 B1 c1 e1 (hF.rep r1) (hF.rep q1) hR) (x_call2 en_15 rfl rfl rfl) ?_
      rintro _ w ⟨rfl, hE⟩
      replace hF := hF.ext hE
      clear hE
      refine o_val (v := .tuple #[.int .i64 (0), .int .i64 (1)]) (x_move rfl) ?_
      refine o_val (v := .int .i64 (0)) (x_extract rfl rfl) ?_
      refine o_val (v := .int .i64 (1)) (x_extract rfl rfl) ?_
      refine o_val (v := .int .i64 (0)) (x_assign rfl) ?_
      refine o_val (v := .int .i64 (1)) (x_assign rfl) ?_
      refine o_nil ?_
      refine e_seq ?_
      refine c_seq ?_
      refine c_region ?_
      refine o_val (v := .agg #[.slice (A0) (l0.length) (c0), .slice (B0) (f0.length) (e0)]) (x_loadS (l := [.slice (A0) (l0.length) (c0), .slice (B0) (f0.length) (e0)]) Tryz.isAgg30 Tryz.sizeOf30 rfl rfl (hF.cellsAll 1 rfl)) ?_
      refine o_val (v := .agg #[.slice (A1) (l1.length) (c1), .slice (B1) (f1.length) (e1)]) (x_loadS (l := [.slice (A1) (l1.length) (c1), .slice (B1) (f1.length) (e1)]) Tryz.isAgg30 Tryz.sizeOf30 rfl rfl (hF.cellsAll 0 rfl)) ?_
      refine o_call (rcost_no _ _ _ l0 f0 A0 B0 c0 e0 (hF.rep r0) (hF.rep q0) l1 f1 A1 B1 c1 e1 (hF.rep r1) (hF.rep q1) hR) (x_call2 en_18 rfl rfl rfl) ?_
      rintro _ w ⟨rfl, hE⟩
      replace hF := hF.ext hE
      clear hE
      refine o_val (v := .tuple #[.int .i64 (0), .int .i64 (1)]) (x_move rfl) ?_
      refine o_val (v := .int .i64 (0)) (x_extract rfl rfl) ?_
      refine o_val (v := .int .i64 (1)) (x_extract rfl rfl) ?_
      refine o_val (v := .int .i64 (0)) (x_assign rfl) ?_
      refine o_val (v := .int .i64 (1)) (x_assign rfl) ?_
      refine o_nil ?_
      refine e_seq ?_
      refine c_seq ?_
      refine c_region ?_
      refine o_val (v := .agg #[.slice (A0) (l0.length) (c0), .slice (B0) (f0.length) (e0)]) (x_loadS (l := [.slice (A0) (l0.length) (c0), .slice (B0) (f0.length) (e0)]) Tryz.isAgg30 Tryz.sizeOf30 rfl rfl (hF.cellsAll 1 rfl)) ?_
      refine o_val (v := .agg #[.slice (A1) (l1.length) (c1), .slice (B1) (f1.length) (e1)]) (x_loadS (l := [.slice (A1) (l1.length) (c1), .slice (B1) (f1.length) (e1)]) Tryz.isAgg30 Tryz.sizeOf30 rfl rfl (hF.cellsAll 0 rfl)) ?_
      refine o_call (costs_no _ _ _ l0 f0 A0 B0 c0 e0 (hF.rep r0) (hF.rep q0) l1 f1 A1 B1 c1 e1 (hF.rep r1) (hF.rep q1) hR) (x_call2 en_19 rfl rfl rfl) ?_
      rintro _ w ⟨rfl, hE⟩
      replace hF := hF.ext hE
      clear hE
      refine o_val (v := .tuple #[.slice (none) (0) (0), .int .i64 (1)]) (x_move rfl) ?_
      refine o_val (v := .slice (none) (0) (0)) (x_extract rfl rfl) ?_
      refine o_val (v := .int .i64 (1)) (x_extract rfl rfl) ?_
      refine o_val (v := .slice (none) (0) (0)) (x_assign rfl) ?_
      refine o_val (v := .int .i64 (1)) (x_assign rfl) ?_
      refine o_nil ?_
      refine e_seq ?_
      refine c_seq ?_
      refine c_region ?_
      refine o_val (v := .agg #[.slice (A0) (l0.length) (c0), .slice (B0) (f0.length) (e0)]) (x_loadS (l := [.slice (A0) (l0.length) (c0), .slice (B0) (f0.length) (e0)]) Tryz.isAgg30 Tryz.sizeOf30 rfl rfl (hF.cellsAll 1 rfl)) ?_
      refine o_val (v := .agg #[.slice (A1) (l1.length) (c1), .slice (B1) (f1.length) (e1)]) (x_loadS (l := [.slice (A1) (l1.length) (c1), .slice (B1) (f1.length) (e1)]) Tryz.isAgg30 Tryz.sizeOf30 rfl rfl (hF.cellsAll 0 rfl)) ?_
      refine o_call (rcosts_no _ _ _ l0 f0 A0 B0 c0 e0 (hF.rep r0) (hF.rep q0) l1 f1 A1 B1 c1 e1 (hF.rep r1) (hF.rep q1) hR) (x_call2 en_20 rfl rfl rfl) ?_
      rintro _ w ⟨rfl, hE⟩
      replace hF := hF.ext hE
      clear hE
      refine o_val (v := .tuple #[.slice (none) (0) (0), .int .i64 (1)]) (x_move rfl) ?_
      refine o_val (v := .slice (none) (0) (0)) (x_extract rfl rfl) ?_
      refine o_val (v := .int .i64 (1)) (x_extract rfl rfl) ?_
      refine o_val (v := .slice (none) (0) (0)) (x_assign rfl) ?_
      refine o_val (v := .int .i64 (1)) (x_assign rfl) ?_
      refine o_nil ?_
      refine e_seq ?_
      refine c_seq ?_
      refine c_seq ?_
      refine c_region ?_
      refine o_val (v := .int .i64 (0)) (x_move rfl) ?_
      refine o_val (v := .int .i64 (0)) (x_move rfl) ?_
      refine o_val (v := .bool false) (run_false (x_neq rfl rfl) (by omega)) ?_
      refine o_val (v := .bool false) (x_move rfl) ?_
      refine o_val (v := .int .i64 (1)) (x_move rfl) ?_
      refine o_val (v := .int .i64 (1)) (x_move rfl) ?_
      refine o_val (v := .bool false) (run_false (x_neq rfl rfl) (by omega)) ?_
      refine o_val (v := .bool false) (x_pickf rfl rfl) ?_
      refine o_val (v := .bool false) (x_move rfl) ?_
      refine o_val (v := .int .i64 (1)) (x_move rfl) ?_
      refine o_val (v := .int .i64 (1)) (x_move rfl) ?_
      refine o_val (v := .bool false) (run_false (x_neq rfl rfl) (by omega)) ?_
      refine o_val (v := .bool false) (x_pickf rfl rfl) ?_
      refine o_val (v := .bool false) (x_move rfl) ?_
      refine o_val (v := .slice (none) (0) (0)) (x_move rfl) ?_
      refine o_val (v := .int .i64 (0)) (x_len_slice Tryz.underlying44 rfl) ?_
      refine o_val (v := .slice (none) (0) (0)) (x_move rfl) ?_
      refine o_val (v := .int .i64 (0)) (x_len_slice Tryz.underlying44 rfl) ?_
      refine o_val (v := .bool false) (run_false (x_neq rfl rfl) (by omega)) ?_
      refine o_val (v := .bool false) (x_pickf rfl rfl) ?_
      refine o_nil ?_
      refine e_seq ?_
      refine c_iff rfl ?_
      refine c_skip ?_
      refine e_seq ?_
      refine c_seq ?_
      refine c_seq ?_
      refine c_region ?_
      refine o_val (v := .int .i64 (0)) (x_assign rfl) ?_
      refine o_nil ?_
      refine e_seq ?_
      refine c_block ?_
      refine c_loop (fun μ σ w => μ = 0 ∧ AllEq σ [(5, .bool true), (11, .slice (none) (0) (0)), (13, .slice (none) (0) (0)), (15, .int .i64 (0))] ∧ FR w0 [] [(b2, .cells #[.slice (A1) (l1.length) (c1), .slice (B1) (f1.length) (e1)] 30), (b1, .cells #[.slice (A0) (l0.length) (c0), .slice (B0) (f0.length) (e0)] 30)] w) _ ⟨rfl, ⟨rfl, rfl, rfl, rfl, trivial⟩, hF⟩ ?_
      clear hF; rintro μ σ w ⟨rfl, hs, hF⟩
      refine Cg.slots hs ?_
      clear hs; intro σ
      refine c_seq ?_
      refine c_seq ?_
      refine c_region ?_
      refine o_val (v := .int .i64 (0)) (x_move rfl) ?_
      refine o_val (v := .slice (none) (0) (0)) (x_move rfl) ?_
      refine o_val (v := .int .i64 (0)) (x_len_slice Tryz.underlying44 rfl) ?_
      refine o_val (v := .bool false) (run_false (x_lss rfl rfl) (by omega)) ?_
      refine o_nil ?_
      refine e_seq ?_
      refine c_iff rfl ?_
      refine c_exit (e_exit rfl ?_)
      refine e_seq ?_
      refine c_seq ?_
      refine c_region ?_
      refine o_val (v := .bool true) (x_move rfl) ?_
      refine o_val (v := .bool true) (x_assign rfl) ?_
      refine o_nil ?_
      refine e_seq ?_
      refine c_ret (e_ret (post_ret (res_1 (v := .bool true) rfl rfl) ?_))
      exact ⟨rfl, hF.same⟩
  ·
    refine o_off ?_
    refine o_off ?_
    refine o_val (v := .bool false) (x_pickf rfl rfl) ?_
    refine o_val (v := .bool false) (x_assign rfl) ?_
    refine o_nil ?_
    refine e_seq ?_
    refine c_seq ?_
    refine c_seq ?_
    refine c_region ?_
    refine o_val (v := .bool false) (x_move rfl) ?_
    refine o_val (v := .bool true) (x_not (b := false) rfl) ?_
    refine o_nil ?_
    refine e_seq ?_
    refine c_ift rfl ?_
    refine c_seq ?_
    refine c_region ?_
    refine o_val (v := .bool true) (x_move rfl) ?_
    refine o_val (v := .bool true) (x_assign rfl) ?_
    refine o_nil ?_
    refine e_seq ?_
    refine c_ret (e_ret (post_ret (res_1 (v := .bool true) rfl rfl) ?_))
    exact ⟨rfl, hF.same⟩
set_option maxHeartbeats 4000000 in
set_option maxRecDepth 10000 in
theorem tedCosts_yes (w0 : World) (hG : Gl w0) (l0 : List Str) (f0 : List Int) (A0 : Option Addr) (c0 : Nat) (B0 : Option Addr) (e0 : Nat) (r0 : Rep (fun _ => True) w0 (strsD l0) [.slice A0 l0.length c0]) (q0 : Rep (fun _ => True) w0 (.slice (f0.map intD)) [.slice B0 f0.length e0]) (l1 : List Str) (f1 : List Int) (A1 : Option Addr) (c1 : Nat) (B1 : Option Addr) (e1 : Nat) (r1 : Rep (fun _ => True) w0 (strsD l1) [.slice A1 l1.length c1]) (q1 : Rep (fun _ => True) w0 (.slice (f1.map intD)) [.slice B1 f1.length e1]) (hR0 : RightT l0 f0) (hR1 : RightT l1 f1) : Calls Tryz.prog 6 #[.agg #[.slice A0 l0.length c0, .slice B0 f0.length e0], .agg #[.slice A1 l1.length c1, .slice B1 f1.length e1]] w0 (Ret fun v w' => v = .bool true ∧ Same [] w0 w') := by
  have hl0 := r0.slice_len
  have hf0 := q0.slice_len
  rw [List.length_map] at hf0
  have hl1 := r1.slice_len
  have hf1 := q1.slice_len
  rw [List.length_map] at hf1
  refine calls_start Tryz.func6 rfl Tryz.ntmps6 (Nat.le_of_ble_eq_true rfl) (args_2 _ _) ?_
  have hF := FR.start w0 []
  refine c_seq ?_
  refine c_region ?_
  refine o_box (v := .agg #[.slice (A0) (l0.length) (c0), .slice (B0) (f0.length) (e0)]) (cs := #[.slice (A0) (l0.length) (c0), .slice (B0) (f0.length) (e0)]) hF rfl rfl ?_
  clear hF; intro b1 w hb1 hF hE
  clear hE
  refine o_box (v := .agg #[.slice (A1) (l1.length) (c1), .slice (B1) (f1.length) (e1)]) (cs := #[.slice (A1) (l1.length) (c1), .slice (B1) (f1.length) (e1)]) hF rfl rfl ?_
  clear hF; intro b2 w hb2 hF hE
  clear hE
  refine o_val (v := .bool false) (x_assign rfl) ?_
  refine o_nil ?_
  refine e_seq ?_
  refine c_seq ?_
  refine c_region ?_
  refine o_call (small16_c _ (hG.ext hF.same)) (x_call0 en_8 rfl) ?_
  rintro _ w ⟨rfl, hE⟩
  replace hF := hF.ext hE
  clear hE
  refine o_val (v := .bool true) (x_assign rfl) ?_
  refine o_nil ?_
  refine e_seq ?_
  refine c_seq ?_
  refine c_region ?_
  refine o_val (v := .agg #[.slice (A0) (l0.length) (c0), .slice (B0) (f0.length) (e0)]) (x_loadS (l := [.slice (A0) (l0.length) (c0), .slice (B0) (f0.length) (e0)]) Tryz.isAgg30 Tryz.sizeOf30 rfl rfl (hF.cellsAll 1 rfl)) ?_
  refine o_call (fewN_c _ _ l0 f0 A0 B0 c0 e0 (hF.rep r0) (hF.rep q0) 12) (x_call2 en_13 rfl rfl rfl) ?_
  rintro _ w ⟨rfl, hE⟩
  replace hF := hF.ext hE
  clear hE
  refine o_val (v := .bool (fewN l0 f0 12)) (x_move rfl) ?_
  refine o_split (d := 20) (b := fewN l0 f0 12) rfl (fun hg0 => ?_) (fun hg0 => ?_)
  ·
    refine o_val (v := .agg #[.slice (A1) (l1.length) (c1), .slice (B1) (f1.length) (e1)]) (x_loadS (l := [.slice (A1) (l1.length) (c1), .slice (B1) (f1.length) (e1)]) Tryz.isAgg30 Tryz.sizeOf30 rfl rfl (hF.cellsAll 0 rfl)) ?_
    refine o_call (fewN_c _ _ l1 f1 A1 B1 c1 e1 (hF.rep r1) (hF.rep q1) 12) (x_call2 en_13 rfl rfl rfl) ?_
    rintro _ w ⟨rfl, hE⟩
    replace hF := hF.ext hE
    clear hE
    refine o_val (v := .bool (fewN l1 f1 12)) (x_pickt rfl rfl) ?_
    refine o_val (v := .bool (fewN l1 f1 12)) (x_assign rfl) ?_
    refine o_nil ?_
    refine e_seq ?_
    refine c_seq ?_
    refine c_seq ?_
    refine c_region ?_
    refine o_val (v := .bool (fewN l1 f1 12)) (x_move rfl) ?_
    refine o_val (v := .bool (!(fewN l1 f1 12))) (x_not rfl) ?_
    refine o_nil ?_
    refine e_seq ?_
    refine c_split (d := 25) (b := !(fewN l1 f1 12)) rfl (fun hc0 => ?_) (fun hc0 => ?_)
    ·
      refine c_ift rfl ?_
      refine c_seq ?_
      refine c_region ?_
      refine o_val (v := .bool true) (x_move rfl) ?_
      refine o_val (v := .bool true) (x_assign rfl) ?_
      refine o_nil ?_
      refine e_seq ?_
      refine c_ret (e_ret (post_ret (res_1 (v := .bool true) rfl rfl) ?_))
      exact ⟨rfl, hF.same⟩
    ·
      refine c_iff rfl ?_
      refine c_skip ?_
      refine e_seq ?_
      refine c_seq ?_
      refine c_region ?_
      refine o_val (v := .agg #[.slice (A0) (l0.length) (c0), .slice (B0) (f0.length) (e0)]) (x_loadS (l := [.slice (A0) (l0.length) (c0), .slice (B0) (f0.length) (e0)]) Tryz.isAgg30 Tryz.sizeOf30 rfl rfl (hF.cellsAll 1 rfl)) ?_
      refine o_val (v := .agg #[.slice (A1) (l1.length) (c1), .slice (B1) (f1.length) (e1)]) (x_loadS (l := [.slice (A1) (l1.length) (c1), .slice (B1) (f1.length) (e1)]) Tryz.isAgg30 Tryz.sizeOf30 rfl rfl (hF.cellsAll 0 rfl)) ?_
      have k0 := fewN_ok (ls := l0) (fs := f0) (m := 12) (by first | assumption | exact nb_right (by assumption))
      have k1 := fewN_ok (ls := l1) (fs := f1) (m := 12) (by first | assumption | exact nb_right (by assumption))
      refine o_call (cost_yes _ _ _ l0 f0 A0 B0 c0 e0 (hF.rep r0) (hF.rep q0) l1 f1 A1 B1 c1 e1 (hF.rep r1) (hF.rep q1) hR0 hR1) (x_call2 en_15 rfl rfl rfl) ?_
      rintro _ w ⟨rfl, hE⟩
      replace hF := hF.ext hE
      clear hE
      refine o_val (v := .tuple #[.int .i64 ((costT l0 f0 l1 f1 : Nat)), .int .i64 (0)]) (x_move rfl) ?_
      refine o_val (v := .int .i64 ((costT l0 f0 l1 f1 : Nat))) (x_extract rfl rfl) ?_
      refine o_val (v := .int .i64 (0)) (x_extract rfl rfl) ?_
      refine o_val (v := .int .i64 ((costT l0 f0 l1 f1 : Nat))) (x_assign rfl) ?_
      refine o_val (v := .int .i64 (0)) (x_assign rfl) ?_
      refine o_nil ?_
      refine e_seq ?_
      refine c_seq ?_
      refine c_region ?_
      refine o_val (v := .agg #[.slice (A0) (l0.length) (c0), .slice (B0) (f0.length) (e0)]) (x_loadS (l := [.slice (A0) (l0.length) (c0), .slice (B0) (f0.length) (e0)]) Tryz.isAgg30 Tryz.sizeOf30 rfl rfl (hF.cellsAll 1 rfl)) ?_
      refine o_val (v := .agg #[.slice (A1) (l1.length) (c1), .slice (B1) (f1.length) (e1)]) (x_loadS (l := [.slice (A1) (l1.length) (c1), .slice (B1) (f1.length) (e1)]) Tryz.isAgg30 Tryz.sizeOf30 rfl rfl (hF.cellsAll 0 rfl)) ?_
      refine o_call (rcost_yes _ _ _ l0 f0 A0 B0 c0 e0 (hF.rep r0) (hF.rep q0) l1 f1 A1 B1 c1 e1 (hF.rep r1) (hF.rep q1) hR0 hR1 (by have := k0.2.1; omega) (by have := k1.2.1; omega)) (x_call2 en_18 rfl rfl rfl) ?_
      rintro _ w ⟨rfl, hE⟩
      replace hF := hF.ext hE
      clear hE
      refine o_val (v := .tuple #[.int .i64 ((costT l0 f0 l1 f1 : Nat)), .int .i64 (0)]) (x_move rfl) ?_
      refine o_val (v := .int .i64 ((costT l0 f0 l1 f1 : Nat))) (x_extract rfl rfl) ?_
      refine o_val (v := .int .i64 (0)) (x_extract rfl rfl) ?_
      refine o_val (v := .int .i64 ((costT l0 f0 l1 f1 : Nat))) (x_assign rfl) ?_
      refine o_val (v := .int .i64 (0)) (x_assign rfl) ?_
      refine o_nil ?_
      refine e_seq ?_
      refine c_seq ?_
      refine c_region ?_
      refine o_val (v := .agg #[.slice (A0) (l0.length) (c0), .slice (B0) (f0.length) (e0)]) (x_loadS (l := [.slice (A0) (l0.length) (c0), .slice (B0) (f0.length) (e0)]) Tryz.isAgg30 Tryz.sizeOf30 rfl rfl (hF.cellsAll 1 rfl)) ?_
      refine o_val (v := .agg #[.slice (A1) (l1.length) (c1), .slice (B1) (f1.length) (e1)]) (x_loadS (l := [.slice (A1) (l1.length) (c1), .slice (B1) (f1.length) (e1)]) Tryz.isAgg30 Tryz.sizeOf30 rfl rfl (hF.cellsAll 0 rfl)) ?_
      refine o_call (costs_yes _ _ _ l0 f0 A0 B0 c0 e0 (hF.rep r0) (hF.rep q0) l1 f1 A1 B1 c1 e1 (hF.rep r1) (hF.rep q1) hR0 hR1) (x_call2 en_19 rfl rfl rfl) ?_
      rintro _ w ⟨pb, q, P, rfl, hGr, hP, hE⟩
      replace hF := hF.ext hE
      clear hE
      refine o_val (v := .tuple #[.slice (some ⟨pb, 0, none⟩) (l0.length) (l0.length), .int .i64 (0)]) (x_move rfl) ?_
      refine o_val (v := .slice (some ⟨pb, 0, none⟩) (l0.length) (l0.length)) (x_extract rfl rfl) ?_
      refine o_val (v := .int .i64 (0)) (x_extract rfl rfl) ?_
      refine o_val (v := .slice (some ⟨pb, 0, none⟩) (l0.length) (l0.length)) (x_assign rfl) ?_
      refine o_val (v := .int .i64 (0)) (x_assign rfl) ?_
      refine o_nil ?_
      refine e_seq ?_
      refine c_seq ?_
      refine c_region ?_
      refine o_val (v := .agg #[.slice (A0) (l0.length) (c0), .slice (B0) (f0.length) (e0)]) (x_loadS (l := [.slice (A0) (l0.length) (c0), .slice (B0) (f0.length) (e0)]) Tryz.isAgg30 Tryz.sizeOf30 rfl rfl (hF.cellsAll 1 rfl)) ?_
      refine o_val (v := .agg #[.slice (A1) (l1.length) (c1), .slice (B1) (f1.length) (e1)]) (x_loadS (l := [.slice (A1) (l1.length) (c1), .slice (B1) (f1.length) (e1)]) Tryz.isAgg30 Tryz.sizeOf30 rfl rfl (hF.cellsAll 0 rfl)) ?_
      refine o_call (rcosts_yes _ _ _ l0 f0 A0 B0 c0 e0 (hF.rep r0) (hF.rep q0) l1 f1 A1 B1 c1 e1 (hF.rep r1) (hF.rep q1) hR0 hR1 (by have := k0.2.1; omega) (by have := k1.2.1; omega)) (x_call2 en_20 rfl rfl rfl) ?_
      rintro _ w ⟨Ar, cr, rfl, hRw, hE⟩
      replace hF := hF.ext hE
      replace hGr := hGr.ext hE
      replace hRw := hRw.weaken (S' := fun _ => True) (fun _ _ _ => trivial)
      clear hE
      refine o_val (v := .tuple #[.slice (Ar) (l0.length) (cr), .int .i64 (0)]) (x_move rfl) ?_
      refine o_val (v := .slice (Ar) (l0.length) (cr)) (x_extract rfl rfl) ?_
      refine o_val (v := .int .i64 (0)) (x_extract rfl rfl) ?_
      refine o_val (v := .slice (Ar) (l0.length) (cr)) (x_assign rfl) ?_
      refine o_val (v := .int .i64 (0)) (x_assign rfl) ?_
      refine o_nil ?_
      refine e_seq ?_
      refine c_seq ?_
      refine c_seq ?_
      refine c_region ?_
      refine o_val (v := .int .i64 ((costT l0 f0 l1 f1 : Nat))) (x_move rfl) ?_
      refine o_val (v := .int .i64 ((costT l0 f0 l1 f1 : Nat))) (x_move rfl) ?_
      refine o_val (v := .bool false) (run_false (x_neq rfl rfl) (by omega)) ?_
      refine o_val (v := .bool false) (x_move rfl) ?_
      refine o_val (v := .int .i64 (0)) (x_move rfl) ?_
      refine o_val (v := .int .i64 (0)) (x_move rfl) ?_
      refine o_val (v := .bool false) (run_false (x_neq rfl rfl) (by omega)) ?_
      refine o_val (v := .bool false) (x_pickf rfl rfl) ?_
      refine o_val (v := .bool false) (x_move rfl) ?_
      refine o_val (v := .int .i64 (0)) (x_move rfl) ?_
      refine o_val (v := .int .i64 (0)) (x_move rfl) ?_
      refine o_val (v := .bool false) (run_false (x_neq rfl rfl) (by omega)) ?_
      refine o_val (v := .bool false) (x_pickf rfl rfl) ?_
      refine o_val (v := .bool false) (x_move rfl) ?_
      refine o_val (v := .slice (some ⟨pb, 0, none⟩) (l0.length) (l0.length)) (x_move rfl) ?_
      refine o_val (v := .int .i64 ((l0.length : Nat))) (x_len_slice Tryz.underlying44 rfl) ?_
      refine o_val (v := .slice (Ar) (l0.length) (cr)) (x_move rfl) ?_
      refine o_val (v := .int .i64 ((l0.length : Nat))) (x_len_slice Tryz.underlying44 rfl) ?_
      refine o_val (v := .bool false) (run_false (x_neq rfl rfl) (by omega)) ?_
      refine o_val (v := .bool false) (x_pickf rfl rfl) ?_
      refine o_nil ?_
      refine e_seq ?_
      refine c_iff rfl ?_
      refine c_skip ?_
      refine e_seq ?_
      refine c_seq ?_
      refine c_seq ?_
      refine c_region ?_
      refine o_val (v := .int .i64 (0)) (x_assign rfl) ?_
      refine o_nil ?_
      refine e_seq ?_
      refine c_block ?_
      refine c_loop (fun μ σ w => ∃ (i : Nat), μ = l0.length - i ∧ (i ≤ l0.length) ∧ (Grid2 w pb l0.length l1.length 28 3 q P) ∧ (Rep (fun _ => True) w (.slice (rowsT l0 f0 l1 f1 l0.length)) [.slice Ar l0.length cr]) ∧ AllEq σ [(5, .bool true), (11, .slice (some ⟨pb, 0, none⟩) (l0.length) (l0.length)), (13, .slice (Ar) (l0.length) (cr)), (15, .int .i64 ((i : Int)))] ∧ FR w0 [] [(b2, .cells #[.slice (A1) (l1.length) (c1), .slice (B1) (f1.length) (e1)] 30), (b1, .cells #[.slice (A0) (l0.length) (c0), .slice (B0) (f0.length) (e0)] 30)] w) _ ⟨0, rfl, (Nat.zero_le _), (hGr), (hRw), ⟨rfl, rfl, rfl, rfl, trivial⟩, hF⟩ ?_
      clear hF; rintro μ σ w ⟨i, rfl, hi, hGr, hRw, hs, hF⟩
      refine Cg.slots hs ?_
      clear hs; intro σ
      refine c_seq ?_
      refine c_seq ?_
      refine c_region ?_
      refine o_val (v := .int .i64 ((i : Int))) (x_move rfl) ?_
      refine o_val (v := .slice (some ⟨pb, 0, none⟩) (l0.length) (l0.length)) (x_move rfl) ?_
      refine o_val (v := .int .i64 ((l0.length : Nat))) (x_len_slice Tryz.underlying44 rfl) ?_
      refine o_val (v := .bool (decide (((i : Int) : Int) < ((l0.length : Nat) : Int)))) (x_lss rfl rfl) ?_
      refine o_nil ?_
      refine e_seq ?_
      refine c_splitd (d := 74) (p := ((i : Int) : Int) < ((l0.length : Nat) : Int)) rfl (fun hc2 => ?_) (fun hc2 => ?_)
      ·
        refine c_ift rfl ?_
        refine c_skip ?_
        refine e_seq ?_
        refine c_seq ?_
        refine c_block ?_
        refine c_seq ?_
        obtain ⟨adr, Br, er, hAr, hcr, hrr⟩ := rowsT_elem hRw (i := i) (by omega)
        refine c_drawF [] (.free 0 (.free 1 (.free 2 (.free 3 (.free 4 (.free 5 (.free 6 (.free 7 (.act 8 (.free 9 .nil)))))))))) (by kernel_rfl) hF (by kernel_rfl) (by kernel_rfl) ?_
        clear hF; intro w hF hE
        replace hGr := hGr.ext hE
        replace hRw := hRw.ext hE
        replace hrr := hrr.ext hE
        replace hcr := hE.cell hcr
        clear hE
        refine ⟨fun wq => FR w0 [] [(b2, .cells #[.slice (A1) (l1.length) (c1), .slice (B1) (f1.length) (e1)] 30), (b1, .cells #[.slice (A0) (l0.length) (c0), .slice (B0) (f0.length) (e0)] 30)] wq ∧ (Grid2 wq pb l0.length l1.length 28 3 q P ∧ wq.cell? (adr.add (i * 1)) = some (.slice Br l1.length er)), ⟨hF, ⟨hGr, hcr⟩⟩, ?_⟩
        refine f_free rfl (v := .slice (some ⟨pb, 0, none⟩) (l0.length) (l0.length)) (fun w hC => x_move rfl) ?_
        refine f_free rfl (v := .int .i64 ((i : Int))) (fun w hC => x_move rfl) ?_
        refine f_free rfl (v := .pointer (some ⟨pb, i, none⟩)) (fun w hC => x_indexAddrO (i := ((i : Nat) : Int)) (i) sl_44 rfl rfl (by omega) (by omega) (by omega)) ?_
        refine f_free rfl (v := .slice (some ⟨q i, 0, none⟩) (l1.length) (l1.length)) (fun w hC => x_load Tryz.isAgg28 rfl (hC.2.1.rowCell (i := i) (by omega))) ?_
        refine f_free rfl (v := .slice (Ar) (l0.length) (cr)) (fun w hC => x_move rfl) ?_
        refine f_free rfl (v := .int .i64 ((i : Int))) (fun w hC => x_move rfl) ?_
        refine f_free rfl (v := .pointer (some (adr.add (i * 1)))) (fun w hC => x_indexAddrA (i := ((i : Nat) : Int)) sl_44 rfl hAr rfl (by omega) (by omega)) ?_
        refine f_free rfl (v := .slice (Br) (l1.length) (er)) (fun w hC => x_load Tryz.isAgg28 rfl hC.2.2) ?_
        have hin := ints_c _ _ w (rowT l0 f0 l1 f1 i l1.length) (rowT l0 f0 l1 f1 i l1.length) _ _ _ _ (grid_rep hGr (i := i) (by omega) (rowT_len ..) (by simp only [maxLen]; have := k1.2.1; omega) (fun j hj => by rw [rowT_len] at hj; rw [hP i j (by omega) hj]; simp [rowT]) (rowT_in (by have := k0.2.1; omega) (by have := k1.2.1; omega))) hrr
        rw [rowT_len, decide_eq_true rfl] at hin
        refine f_call rfl (hin) (x_call2 en_21 rfl rfl rfl) ?_
        rintro _ w ⟨rfl, hE⟩
        replace hF := hF.ext hE
        replace hGr := hGr.ext hE
        replace hRw := hRw.ext hE
        replace hrr := hrr.ext hE
        replace hcr := hE.cell hcr
        clear hE
        refine ⟨⟨hF, ⟨hGr, hcr⟩⟩, ?_⟩
        refine f_free rfl (v := .bool true) (fun w hC => x_assign rfl) ?_
        refine d_nil ?_
        refine e_seq ?_
        refine c_seq ?_
        refine c_region ?_
        refine o_val (v := .bool true) (x_move rfl) ?_
        refine o_val (v := .bool false) (x_not (b := true) rfl) ?_
        refine o_nil ?_
        refine e_seq ?_
        refine c_iff rfl ?_
        refine c_skip ?_
        refine e_block ?_
        refine e_seq ?_
        refine c_region ?_
        refine o_val (v := .int .i64 ((i : Int))) (x_move rfl) ?_
        refine o_val (v := .int .i64 (((i + 1 : Nat) : Int))) (x_add rfl rfl (wrap_to (by omega) (by omega) (by omega))) ?_
        refine o_val (v := .int .i64 (((i + 1 : Nat) : Int))) (x_assign rfl) ?_
        refine o_nil ?_
        refine e_inv ⟨_, ?_, i + 1, rfl, (by omega), (hGr), (hRw), ⟨rfl, rfl, rfl, rfl, trivial⟩, hF⟩
        omega
      ·
        refine c_iff rfl ?_
        refine c_exit (e_exit rfl ?_)
        refine e_seq ?_
        refine c_seq ?_
        refine c_region ?_
        refine o_val (v := .bool true) (x_move rfl) ?_
        refine o_val (v := .bool true) (x_assign rfl) ?_
        refine o_nil ?_
        refine e_seq ?_
        refine c_ret (e_ret (post_ret (res_1 (v := .bool true) rfl rfl) ?_))
        exact ⟨rfl, hF.same⟩
  ·
    refine o_off ?_
    refine o_off ?_
    refine o_val (v := .bool false) (x_pickf rfl rfl) ?_
    refine o_val (v := .bool false) (x_assign rfl) ?_
    refine o_nil ?_
    refine e_seq ?_
    refine c_seq ?_
    refine c_seq ?_
    refine c_region ?_
    refine o_val (v := .bool false) (x_move rfl) ?_
    refine o_val (v := .bool true) (x_not (b := false) rfl) ?_
    refine o_nil ?_
    refine e_seq ?_
    refine c_ift rfl ?_
    refine c_seq ?_
    refine c_region ?_
    refine o_val (v := .bool true) (x_move rfl) ?_
    refine o_val (v := .bool true) (x_assign rfl) ?_
    refine o_nil ?_
    refine e_seq ?_
    refine c_ret (e_ret (post_ret (res_1 (v := .bool true) rfl rfl) ?_))
    exact ⟨rfl, hF.same⟩
theorem tedCosts_w (w0 : World) (hG : Gl w0) (l0 : List Str) (f0 : List Int) (A0 : Option Addr) (c0 : Nat) (B0 : Option Addr) (e0 : Nat) (r0 : Rep (fun _ => True) w0 (strsD l0) [.slice A0 l0.length c0]) (q0 : Rep (fun _ => True) w0 (.slice (f0.map intD)) [.slice B0 f0.length e0]) (l1 : List Str) (f1 : List Int) (A1 : Option Addr) (c1 : Nat) (B1 : Option Addr) (e1 : Nat) (r1 : Rep (fun _ => True) w0 (strsD l1) [.slice A1 l1.length c1]) (q1 : Rep (fun _ => True) w0 (.slice (f1.map intD)) [.slice B1 f1.length e1]) : Calls Tryz.prog 6 #[.agg #[.slice A0 l0.length c0, .slice B0 f0.length e0], .agg #[.slice A1 l1.length c1, .slice B1 f1.length e1]] w0 (Ret fun v w' => v = .bool true ∧ Same [] w0 w') := by
  by_cases h : RightT l0 f0 ∧ RightT l1 f1
  · exact tedCosts_yes w0 hG l0 f0 A0 c0 B0 e0 r0 q0 l1 f1 A1 c1 B1 e1 r1 q1 h.1 h.2
  · exact tedCosts_no w0 hG l0 f0 A0 c0 B0 e0 r0 q0 l1 f1 A1 c1 B1 e1 r1 q1 h
end Go.Scarf
