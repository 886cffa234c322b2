/- A part of the proof. -/
import Derived.Test.YtonoededmmohhaaGreatDoorK1
import Derived.Test.YtonoededmmohhaaGreatDoorTr
import Derived.Test.YtonoededmmohhaaGreatDoorV4
import Derived.Test.YtonoededmmohhaaGreatDoorE15
import Derived.Test.YtonoededmmohhaaGreatDoorE9
set_option linter.all false
namespace Go.Scarf
open Go.RowKit Go.Proofs
theorem less_ne {a b : Str} (h : strLt a b = true) : a ≠ b := fun e => by
  subst e
  rw [strLt_is, decide_eq_true_eq] at h
  exact absurd h (List.lt_irrefl _)
theorem more_ne {a b : Str} (h : (!(strLt a b || decide (a = b))) = true) : a ≠ b := fun e => by
  subst e
  simp at h
theorem none_eq {a b : Str} (h1 : strLt a b = false) (h2 : (!(strLt a b || decide (a = b))) = false) : a = b := by
  rw [h1] at h2
  simpa using h2
open Go.RowKit in
theorem x_makeMap0 {P : Program} {w : World} {ρ : Operand → Value} {dst : Option Nat} {ty : TypeId} {pos : String} {aft : Array Edge} {g : Option (Nat × Bool)} {t kt e : Nat} (ht : P.underlying t = some (.map kt e)) :
    (execOp ρ ⟨dst, .makeMap t none, ty, pos, aft, g⟩).run P w = .ok (.value (.map (some w.heap.size))) (w.alloc (mapO [])) := by
  simp [execOp, Instr.makeMap, run_underlying ht, newObj, Sem.run, mapO, entriesFrom]
theorem eq_step {a b : List Str} {j : Nat} {h1 : j < a.length} {h2 : j < b.length} (hq : ∀ i (h : i < a.length) (h2 : i < b.length), i < j → a[i] = b[i]) (h : a[j] = b[j]) : ∀ i (h : i < a.length) (h2 : i < b.length), i < j + 1 → a[i] = b[i] := fun i h3 h4 h5 => by
  by_cases e : i = j
  · subst e; exact h
  · exact hq i h3 h4 (by omega)
theorem lists_eq {a b : List Str} {j : Nat} (h : ∀ i (h : i < a.length) (h2 : i < b.length), i < j → a[i] = b[i]) (hl : a.length = b.length) (hj : a.length ≤ j) : a = b := List.ext_getElem hl fun i h1 h2 => h i h1 h2 (by omega)
set_option maxHeartbeats 2000000 in
set_option maxRecDepth 10000 in
theorem compare07_c (a b : List Str) (A B : Option Addr) (c e : Nat) (S S' : Nat → Prop) (w0 : World) (hX : Rep S w0 (strsD a) [.slice A a.length c]) (hY : Rep S' w0 (strsD b) [.slice B b.length e]) : Calls Tryz.prog 25 #[.slice A a.length c, .slice B b.length e] w0 (Ret fun v w' => ∃ n : Int, v = .int .i64 n ∧ (n = 0 ↔ a = b) ∧ Same [] w0 w') := by
 have hXl := hX.slice_len
 have hYl := hY.slice_len
 refine calls_start Tryz.func25 rfl Tryz.ntmps25 (Nat.le_of_ble_eq_true rfl) (args_2 _ _) ?_
 have hF := FR.start w0 []
 refine c_seq (c_region (o_val (x_assign rfl) (o_nil (e_seq (c_seq (c_seq (c_region (o_val (x_assign rfl) (o_nil (e_seq (c_block ?_)))))))))))
 refine c_loop (fun μ σ w => ∃ (j : Nat), μ = a.length - j ∧ (j ≤ a.length ∧ j ≤ b.length) ∧ (∀ i (h : i < a.length) (h2 : i < b.length), i < j → a[i] = b[i]) ∧ AllEq σ [(0, .slice (A) (a.length) (c)), (1, .slice (B) (b.length) (e)), (5, .int .i64 ((j : Int)))] ∧ FR w0 [] [] w) _ ⟨0, rfl, (by omega), (fun i _ _ h => by omega), ⟨rfl, rfl, rfl, trivial⟩, hF⟩ ?_
 clear hF; rintro μ σ w ⟨j, rfl, hj, hq, hs, hF⟩
 refine Cg.slots hs ?_
 clear hs; intro σ
 refine c_seq (c_seq (c_region (o_val (x_move rfl) (o_val (x_move rfl) (o_val (v := .int .i64 ((a.length : Nat))) (x_len_slice Tryz.underlying22 rfl) (o_val (v := .bool (decide (((j : Int) : Int) < ((a.length : Nat) : Int)))) (x_lss rfl rfl) (o_val (x_move rfl) ?_)))))))
 refine o_splitd (d := 10) (p := ((j : Int) : Int) < ((a.length : Nat) : Int)) rfl (fun hg0 => ?_) (fun hg0 => ?_)
 refine o_val (x_move rfl) (o_val (x_move rfl) (o_val (v := .int .i64 ((b.length : Nat))) (x_len_slice Tryz.underlying22 rfl) (o_val (v := .bool (decide (((j : Int) : Int) < ((b.length : Nat) : Int)))) (x_lss rfl rfl) (o_val (x_pickt rfl rfl) (o_nil (e_seq ?_))))))
 refine c_splitd (d := 15) (p := ((j : Int) : Int) < ((b.length : Nat) : Int)) rfl (fun hc0 => ?_) (fun hc0 => ?_)
 refine c_ift rfl (c_skip (e_seq (c_seq (c_block (c_seq (c_seq ?_))))))
 refine c_drawF [] (.free 0 (.free 1 (.free 2 (.free 3 (.free 4 (.free 5 (.free 6 (.free 7 (.free 8 .nil))))))))) (by kernel_rfl) hF (by kernel_rfl) (by kernel_rfl) ?_
 clear hF; rintro w hF -
 refine ⟨fun wq => FR w0 [] [] wq, hF, ?_⟩
 refine f_free rfl (v := .slice (A) (a.length) (c)) (fun w hC => x_move rfl) (f_free rfl (v := .int .i64 ((j : Int))) (fun w hC => x_move rfl) ?_)
 obtain ⟨ad1, hA1, hk1, hx1⟩ := hX.str_elem (i := j) (by omega)
 refine f_free rfl (v := .pointer (some (ad1.add (j * 1)))) (fun w hC => x_indexAddrA (i := (j : Int)) sl_22 rfl hA1 rfl (by omega) (by omega)) (f_free rfl (v := .string (bs (a[j]))) (fun w hC => x_load Tryz.isAgg9 rfl (hC.cell0 hk1)) (f_free rfl (v := .slice (B) (b.length) (e)) (fun w hC => x_move rfl) (f_free rfl (v := .int .i64 ((j : Int))) (fun w hC => x_move rfl) ?_)))
 obtain ⟨ad2, hA2, hk2, hx2⟩ := hY.str_elem (i := j) (by omega)
 refine f_free rfl (v := .pointer (some (ad2.add (j * 1)))) (fun w hC => x_indexAddrA (i := (j : Int)) sl_22 rfl hA2 rfl (by omega) (by omega)) (f_free rfl (v := .string (bs (b[j]))) (fun w hC => x_load Tryz.isAgg9 rfl (hC.cell0 hk2)) (f_free rfl (v := .bool (strLt (a[j]) (b[j]))) (fun w hC => x_lsss rfl rfl) (d_nil (e_seq ?_))))
 refine c_split (d := 26) (b := strLt (a[j]) (b[j])) rfl (fun hc1 => ?_) (fun hc1 => ?_)
 refine c_ift rfl (c_seq (c_region (o_val (x_assign rfl) (o_nil (e_seq ?_)))))
 refine c_ret (e_ret (post_ret (res_1 (v := .int .i64 ((-1))) rfl rfl) ?_))
 exact ⟨_, rfl, ⟨fun h => by omega, fun h => (less_ne hc1 (by subst h; rfl)).elim⟩, hF.same⟩
 refine c_iff rfl (c_skip (e_seq (c_seq ?_)))
 refine c_drawF [] (.free 0 (.free 1 (.free 2 (.free 3 (.free 4 (.free 5 (.free 6 (.free 7 (.free 8 .nil))))))))) (by kernel_rfl) hF (by kernel_rfl) (by kernel_rfl) ?_
 clear hF; rintro w hF -
 refine ⟨fun wq => FR w0 [] [] wq, hF, ?_⟩
 refine f_free rfl (v := .slice (A) (a.length) (c)) (fun w hC => x_move rfl) (f_free rfl (v := .int .i64 ((j : Int))) (fun w hC => x_move rfl) ?_)
 obtain ⟨ad3, hA3, hk3, hx3⟩ := hX.str_elem (i := j) (by omega)
 refine f_free rfl (v := .pointer (some (ad3.add (j * 1)))) (fun w hC => x_indexAddrA (i := (j : Int)) sl_22 rfl hA3 rfl (by omega) (by omega)) (f_free rfl (v := .string (bs (a[j]))) (fun w hC => x_load Tryz.isAgg9 rfl (hC.cell0 hk3)) (f_free rfl (v := .slice (B) (b.length) (e)) (fun w hC => x_move rfl) (f_free rfl (v := .int .i64 ((j : Int))) (fun w hC => x_move rfl) ?_)))
 obtain ⟨ad4, hA4, hk4, hx4⟩ := hY.str_elem (i := j) (by omega)
 refine f_free rfl (v := .pointer (some (ad4.add (j * 1)))) (fun w hC => x_indexAddrA (i := (j : Int)) sl_22 rfl hA4 rfl (by omega) (by omega)) (f_free rfl (v := .string (bs (b[j]))) (fun w hC => x_load Tryz.isAgg9 rfl (hC.cell0 hk4)) (f_free rfl (v := .bool (!(strLt (a[j]) (b[j]) || decide ((a[j] : Str) = b[j])))) (fun w hC => x_gtrs rfl rfl) (d_nil (e_seq ?_))))
 refine c_split (d := 35) (b := !(strLt (a[j]) (b[j]) || decide ((a[j] : Str) = b[j]))) rfl (fun hc2 => ?_) (fun hc2 => ?_)
 refine c_ift rfl (c_seq (c_region (o_val (x_assign rfl) (o_nil (e_seq ?_)))))
 refine c_ret (e_ret (post_ret (res_1 (v := .int .i64 (1)) rfl rfl) ?_))
 exact ⟨_, rfl, ⟨fun h => by omega, fun h => (more_ne hc2 (by subst h; rfl)).elim⟩, hF.same⟩
 refine c_iff rfl (c_skip (e_block (e_seq (c_region (o_val (x_move rfl) (o_val (v := .int .i64 (((j + 1 : Nat) : Int))) (x_add rfl rfl (wrap_to (by omega) (by omega) (by omega))) (o_val (x_assign rfl) (o_nil ?_))))))))
 refine e_inv ⟨_, ?_, j + 1, rfl, (by omega), (eq_step hq (none_eq (by assumption) (by assumption))), ⟨rfl, rfl, rfl, trivial⟩, hF⟩
 omega
 refine c_iff rfl ?_
 refine c_exit (e_exit rfl ?_)
 refine e_seq (c_seq (c_seq (c_region (o_val (x_move rfl) (o_val (v := .int .i64 ((a.length : Nat))) (x_len_slice Tryz.underlying22 rfl) (o_val (x_move rfl) (o_val (v := .int .i64 ((b.length : Nat))) (x_len_slice Tryz.underlying22 rfl) (o_val (v := .bool (decide (((a.length : Nat) : Int) < ((b.length : Nat) : Int)))) (x_lss rfl rfl) (o_nil (e_seq ?_))))))))))
 refine c_splitd (d := 40) (p := ((a.length : Nat) : Int) < ((b.length : Nat) : Int)) rfl (fun hc3 => ?_) (fun hc3 => ?_)
 refine c_ift rfl (c_seq (c_region (o_val (x_assign rfl) (o_nil (e_seq ?_)))))
 refine c_ret (e_ret (post_ret (res_1 (v := .int .i64 ((-1))) rfl rfl) ?_))
 exact ⟨_, rfl, ⟨fun h => by omega, fun h => by subst h; omega⟩, hF.same⟩
 refine c_iff rfl (c_skip (e_seq (c_seq (c_seq (c_region (o_val (x_move rfl) (o_val (v := .int .i64 ((a.length : Nat))) (x_len_slice Tryz.underlying22 rfl) (o_val (x_move rfl) (o_val (v := .int .i64 ((b.length : Nat))) (x_len_slice Tryz.underlying22 rfl) (o_val (v := .bool (decide (((b.length : Nat) : Int) < ((a.length : Nat) : Int)))) (x_gtr rfl rfl) (o_nil (e_seq ?_))))))))))))
 refine c_splitd (d := 45) (p := ((b.length : Nat) : Int) < ((a.length : Nat) : Int)) rfl (fun hc4 => ?_) (fun hc4 => ?_)
 refine c_ift rfl (c_seq (c_region (o_val (x_assign rfl) (o_nil (e_seq ?_)))))
 refine c_ret (e_ret (post_ret (res_1 (v := .int .i64 (1)) rfl rfl) ?_))
 exact ⟨_, rfl, ⟨fun h => by omega, fun h => by subst h; omega⟩, hF.same⟩
 refine c_iff rfl (c_skip (e_seq (c_seq (c_region (o_val (x_assign rfl) (o_nil (e_seq ?_)))))))
 refine c_ret (e_ret (post_ret (res_1 (v := .int .i64 (0)) rfl rfl) ?_))
 exact ⟨_, rfl, ⟨fun _ => lists_eq hq (by omega) (by omega), fun _ => rfl⟩, hF.same⟩
 refine o_off (o_off (o_off (o_off (o_val (x_pickf rfl rfl) (o_nil (e_seq (c_iff rfl ?_)))))))
 refine c_exit (e_exit rfl ?_)
 refine e_seq (c_seq (c_seq (c_region (o_val (x_move rfl) (o_val (v := .int .i64 ((a.length : Nat))) (x_len_slice Tryz.underlying22 rfl) (o_val (x_move rfl) (o_val (v := .int .i64 ((b.length : Nat))) (x_len_slice Tryz.underlying22 rfl) (o_val (v := .bool (decide (((a.length : Nat) : Int) < ((b.length : Nat) : Int)))) (x_lss rfl rfl) (o_nil (e_seq ?_))))))))))
 refine c_splitd (d := 40) (p := ((a.length : Nat) : Int) < ((b.length : Nat) : Int)) rfl (fun hc3 => ?_) (fun hc3 => ?_)
 refine c_ift rfl (c_seq (c_region (o_val (x_assign rfl) (o_nil (e_seq ?_)))))
 refine c_ret (e_ret (post_ret (res_1 (v := .int .i64 ((-1))) rfl rfl) ?_))
 exact ⟨_, rfl, ⟨fun h => by omega, fun h => by subst h; omega⟩, hF.same⟩
 refine c_iff rfl (c_skip (e_seq (c_seq (c_seq (c_region (o_val (x_move rfl) (o_val (v := .int .i64 ((a.length : Nat))) (x_len_slice Tryz.underlying22 rfl) (o_val (x_move rfl) (o_val (v := .int .i64 ((b.length : Nat))) (x_len_slice Tryz.underlying22 rfl) (o_val (v := .bool (decide (((b.length : Nat) : Int) < ((a.length : Nat) : Int)))) (x_gtr rfl rfl) (o_nil (e_seq ?_))))))))))))
 refine c_splitd (d := 45) (p := ((b.length : Nat) : Int) < ((a.length : Nat) : Int)) rfl (fun hc4 => ?_) (fun hc4 => ?_)
 refine c_ift rfl (c_seq (c_region (o_val (x_assign rfl) (o_nil (e_seq ?_)))))
 refine c_ret (e_ret (post_ret (res_1 (v := .int .i64 (1)) rfl rfl) ?_))
 exact ⟨_, rfl, ⟨fun h => by omega, fun h => by subst h; omega⟩, hF.same⟩
 refine c_iff rfl (c_skip (e_seq (c_seq (c_region (o_val (x_assign rfl) (o_nil (e_seq ?_)))))))
 refine c_ret (e_ret (post_ret (res_1 (v := .int .i64 (0)) rfl rfl) ?_))
 exact ⟨_, rfl, ⟨fun _ => lists_eq hq (by omega) (by omega), fun _ => rfl⟩, hF.same⟩
set_option maxHeartbeats 1000000 in
set_option maxRecDepth 10000 in
theorem same07_c (a b : List Str) (A B : Option Addr) (c e : Nat) (S S' : Nat → Prop) (w0 : World) (hX : Rep S w0 (strsD a) [.slice A a.length c]) (hY : Rep S' w0 (strsD b) [.slice B b.length e]) : Calls Tryz.prog 8 #[.slice A a.length c, .slice B b.length e] w0 (Ret fun v w' => v = .bool (decide (a = b)) ∧ Same [] w0 w') := by
 refine calls_start Tryz.func8 rfl Tryz.ntmps8 (Nat.le_of_ble_eq_true rfl) (args_2 _ _) ?_
 have hF := FR.start w0 []
 refine c_seq (c_region (o_val (x_assign rfl) (o_nil (e_seq (c_seq (c_region (o_val (x_move rfl) (o_val (x_move rfl) ?_))))))))
 refine o_call (compare07_c a b A B c e _ _ _ (hF.rep hX) (hF.rep hY)) (x_call2 en_25 rfl rfl rfl) ?_
 rintro _ w ⟨n, rfl, hn, hE⟩
 replace hF := hF.ext hE
 clear hE
 refine o_val (v := .bool (decide ((n : Int) = (0 : Int)))) (x_eql rfl rfl) (o_val (x_assign rfl) (o_nil (e_seq ?_)))
 refine c_ret (e_ret (post_ret (res_1 (v := .bool (decide ((n : Int) = (0 : Int)))) rfl rfl) ?_))
 exact ⟨congrArg Value.bool (decide_eq_decide.2 hn), hF.same⟩
theorem flat_take {rows : List (List Str)} {i : Nat} (h : i < rows.length) : (rows.take (i + 1)).flatten = (rows.take i).flatten ++ rows[i] := by
  rw [List.take_succ_eq_append_getElem h, List.flatten_append]; simp
theorem flat_len {rows : List (List Str)} {i : Nat} (h : i < rows.length) : (rows.take i).flatten.length + rows[i].length ≤ rows.flatten.length := by
  have h1 := flat_take h
  have h2 : rows.flatten = (rows.take (i + 1)).flatten ++ (rows.drop (i + 1)).flatten := by rw [← List.flatten_append, List.take_append_drop]
  rw [h2, List.length_append, h1, List.length_append]; omega
theorem fold_len (l : List Str) (acc : List Str) : (l.foldl addU acc).length ≤ acc.length + l.length := by
  obtain ⟨r, h, hr⟩ := foldU_ext l acc
  rw [h, List.length_append]; omega
theorem fold_take {l acc : List Str} {j : Nat} (h : j < l.length) : (l.take (j + 1)).foldl addU acc = addU ((l.take j).foldl addU acc) l[j] := by
  rw [List.take_succ_eq_append_getElem h, List.foldl_append]; rfl
theorem keysM_snoc (ks : List Str) (k : Str) : keysM ks ++ [(k, .bool true)] = keysM (ks ++ [k]) := by unfold keysM; rw [List.map_append]; rfl
set_option maxHeartbeats 4000000 in
set_option maxRecDepth 10000 in
theorem union_c (rows : List (List Str)) (R : Option Addr) (cr : Nat) (S : Nat → Prop) (w0 : World) (hX : Rep S w0 (.slice (rows.map strsD)) [.slice R rows.length cr]) (hn : rows.flatten.length ≤ 1000000) (hlim : ∀ s ∈ unionS rows, s.length ≤ 9223372036854775807) : Calls Tryz.prog 9 #[.slice R rows.length cr] w0 (Ret fun v w' => ∃ A c, v = .slice A (unionS rows).length c ∧ Rep (Btw w0 w') w' (strsD (unionS rows)) [.slice A (unionS rows).length c] ∧ Same [] w0 w') := by
 have hXl := hX.slice_len
 refine calls_start Tryz.func9 rfl Tryz.ntmps9 (Nat.le_of_ble_eq_true rfl) (args_1 _) ?_
 have hF := FR.start w0 []
 refine c_seq (c_region (o_val (x_assign rfl) (o_nil (e_seq (c_seq (c_region (o_val (x_assign rfl) (o_nil (e_seq (c_seq (c_region ?_)))))))))))
 refine o_new (v := fun b => .map (some b)) hF (x_makeMap0 Tryz.underlying49) ?_
 clear hF; rintro b1 w hb1 hF -
 refine o_val (x_assign rfl) (o_nil (e_seq (c_seq (c_seq (c_region (o_val (x_move rfl) (o_val (v := .int .i64 ((rows.length : Nat))) (x_len_slice Tryz.underlying28 rfl) (o_val (x_move rfl) (o_nil (e_seq (c_block ?_)))))))))))
 replace hF : FR w0 [] ([(b1, mapO (keysM []))] ++ ([] ++ [])) w := hF
 refine c_loop (fun μ σ w => ∃ (i : Nat), ∃ (acc : List Str), ∃ (A : Option Addr), ∃ (c : Nat), ∃ (sb : List (Nat × Obj)), μ = rows.length - i ∧ (i ≤ rows.length) ∧ (acc = (rows.take i).flatten.foldl addU []) ∧ (SlB 9 1 A acc.length c (acc.map fun s => Value.string (bs s)) sb) ∧ AllEq σ [(3, .slice (A) (acc.length) (c)), (4, .map (some b1)), (10, .slice (R) (rows.length) (cr)), (11, .int .i64 ((rows.length : Nat))), (12, .int .i64 ((i : Int)))] ∧ FR w0 [] ([(b1, mapO (keysM (acc)))] ++ (sb ++ [])) w) _ ⟨0, [], none, 0, [], rfl, (Nat.zero_le _), (rfl), (SlB.nil _ _), ⟨rfl, rfl, rfl, rfl, rfl, trivial⟩, hF⟩ ?_
 clear hF; rintro μ σ w ⟨i, acc, A, c, sb, rfl, hi, hacc, hS, hs, hF⟩
 refine Cg.slots hs ?_
 clear hs; intro σ
 refine c_seq (c_region (o_val (v := .bool (decide (((i : Int) : Int) < ((rows.length : Nat) : Int)))) (x_lss rfl rfl) (o_nil (e_seq (c_seq ?_)))))
 refine c_splitd (d := 13) (p := ((i : Int) : Int) < ((rows.length : Nat) : Int)) rfl (fun hc0 => ?_) (fun hc0 => ?_)
 refine c_ift rfl (c_skip (e_seq (c_seq (c_block (c_seq (c_region ?_))))))
 obtain ⟨ad0, B0, e0, hA0, hk0, hx0⟩ := hX.row_elem (i := i) (by omega)
 obtain ⟨l, hl⟩ : ∃ l, l = rows[i]'(by omega) := ⟨_, rfl⟩
 rw [← hl] at hk0 hx0
 have hL := hx0
 have hLl := hL.slice_len
 have hfl := flat_len (rows := rows) (i := i) (by omega)
 rw [← hl] at hfl
 refine o_val (v := .pointer (some (ad0.add (i * 1)))) (x_indexAddrA (i := (i : Int)) sl_28 rfl hA0 rfl (by omega) (by omega)) (o_val (v := .slice (B0) (l.length) (e0)) (x_load Tryz.isAgg22 rfl (hF.cell0 hk0)) (o_val (x_assign rfl) (o_nil (e_seq (c_seq (c_region (o_val (x_move rfl) (o_val (v := .int .i64 ((l.length : Nat))) (x_len_slice Tryz.underlying22 rfl) (o_val (x_move rfl) (o_nil (e_seq (c_block ?_))))))))))))
 refine c_loop (fun μ σ w => ∃ (j : Nat), ∃ (acc : List Str), ∃ (A : Option Addr), ∃ (c : Nat), ∃ (sb : List (Nat × Obj)), μ = l.length - j ∧ (j ≤ l.length) ∧ (acc = (l.take j).foldl addU ((rows.take i).flatten.foldl addU [])) ∧ (SlB 9 1 A acc.length c (acc.map fun s => Value.string (bs s)) sb) ∧ AllEq σ [(3, .slice (A) (acc.length) (c)), (4, .map (some b1)), (10, .slice (R) (rows.length) (cr)), (11, .int .i64 ((rows.length : Nat))), (12, .int .i64 ((i : Int))), (16, .slice (B0) (l.length) (e0)), (17, .int .i64 ((l.length : Nat))), (18, .int .i64 ((j : Int)))] ∧ FR w0 [] ([(b1, mapO (keysM (acc)))] ++ (sb ++ [])) w) _ ⟨0, acc, A, c, sb, rfl, (Nat.zero_le _), (by rw [hacc]; rfl), (hS), ⟨rfl, rfl, rfl, rfl, rfl, rfl, rfl, rfl, trivial⟩, hF⟩ ?_
 clear hF; rintro μ σ w ⟨j, acc, A, c, sb, rfl, hj, hacc, hS, hs, hF⟩
 refine Cg.slots hs ?_
 clear hs; intro σ
 have hal : acc.length ≤ (rows.take i).flatten.length + j := by rw [hacc]; have h1 := fold_len (l.take j) (((rows.take i).flatten).foldl addU []); have h2 := fold_len (rows.take i).flatten []; rw [List.length_take] at h1; simp only [List.length_nil] at h2; omega
 refine c_seq (c_region (o_val (v := .bool (decide (((j : Int) : Int) < ((l.length : Nat) : Int)))) (x_lss rfl rfl) (o_nil (e_seq (c_seq ?_)))))
 refine c_splitd (d := 19) (p := ((j : Int) : Int) < ((l.length : Nat) : Int)) rfl (fun hc1 => ?_) (fun hc1 => ?_)
 refine c_ift rfl (c_skip (e_seq (c_seq (c_block (c_seq (c_region ?_))))))
 obtain ⟨ad1, hA1, hk1, hx1⟩ := hL.str_elem (i := j) (by omega)
 refine o_val (v := .pointer (some (ad1.add (j * 1)))) (x_indexAddrA (i := (j : Int)) sl_22 rfl hA1 rfl (by omega) (by omega)) (o_val (v := .string (bs (l[j]))) (x_load Tryz.isAgg9 rfl (hF.cell0 hk1)) (o_val (x_assign rfl) (o_nil (e_seq (c_seq (c_region (o_val (x_move rfl) (o_val (x_move rfl) ?_))))))))
 refine o_val (v := .bool (decide (l[j] ∈ acc))) (x_lookupE Tryz.underlying49 Tryz.underlying9 Tryz.zeroValue4 rfl rfl (hF.heap (i := 0) rfl) (by rw [lookM_keys]; split <;> rename_i hh <;> simp only [hh, decide_true, decide_false] <;> rfl)) ?_
 refine o_val (v := .bool (decide (¬ (l[j] ∈ acc)))) (x_notd rfl) (o_nil (e_seq ?_))
 refine c_splitd (d := 25) (p := ¬ (l[j] ∈ acc)) rfl (fun hc2 => ?_) (fun hc2 => ?_)
 refine c_ift rfl (c_seq (c_region (o_val (x_move rfl) (o_val (x_move rfl) ?_))))
 refine o_mapUpdate 0 (v := .bool true) hF Tryz.underlying49 Tryz.underlying9 rfl rfl rfl rfl (by rw [lookM_keys, if_neg (by assumption)]) ?_
 clear hF; rintro w hF -
 rw [keysM_snoc] at hF
 replace hF : FR w0 [] ([(b1, mapO (keysM (acc ++ [l[j]])))] ++ (sb ++ [])) w := hF
 refine o_nil (e_seq (c_region (o_val (x_move rfl) (o_val (x_move rfl) ?_))))
 refine o_new (v := fun b => .slice (some ⟨b, 0, none⟩) 1 1) hF (x_buildSlice (cs := #[.string (bs (l[j]))]) Tryz.underlying22 Tryz.sizeOf9 Tryz.zeroValue9 (by decide) (by decide) (by kernel_rfl)) ?_
 clear hF; rintro b2 w hb2 hF -
 refine o_append [(b2, .cells #[.string (bs (l[j]))] 9), (b1, mapO (keysM (acc ++ [l[j]])))] [] (news := [.string (bs (l[j]))]) (len' := (acc ++ [l[j]]).length) (ys := ((acc ++ [l[j]]).map fun s => Value.string (bs s))) el_22 hF hS rfl rfl (rfl) (fun _ => ⟨_, rfl, cells_opt (hF.cellsAll 0 rfl)⟩) (by simp [Value.oneCell']) (by simp only [maxLen]; omega) (by simp) (by simp) (by omega) ?_
 clear hF; intro A2 c2 o_2 w hS2_o hF hE hnew
 clear hE hnew
 refine o_val (x_assign rfl) (o_nil (e_block (e_seq (c_region (o_val (v := .int .i64 (((j + 1 : Nat) : Int))) (x_add rfl rfl (wrap_to (by omega) (by omega) (by omega))) (o_val (x_move rfl) (o_nil ?_)))))))
 refine e_inv ⟨_, ?_, j + 1, acc ++ [l[j]], A2, c2, o_2, rfl, (by omega), (by rw [fold_take (by omega), ← hacc, addU]; exact (if_neg (by assumption)).symm), (hS2_o), ⟨rfl, rfl, rfl, rfl, rfl, rfl, rfl, rfl, trivial⟩, hF.drop 1⟩
 omega
 refine c_iff rfl (c_skip (e_block (e_seq (c_region (o_val (v := .int .i64 (((j + 1 : Nat) : Int))) (x_add rfl rfl (wrap_to (by omega) (by omega) (by omega))) (o_val (x_move rfl) (o_nil ?_)))))))
 refine e_inv ⟨_, ?_, j + 1, acc, A, c, sb, rfl, (by omega), (by rw [fold_take (by omega), ← hacc, addU]; exact (if_pos (Classical.not_not.1 (by assumption))).symm), (hS), ⟨rfl, rfl, rfl, rfl, rfl, rfl, rfl, rfl, trivial⟩, hF⟩
 omega
 refine c_iff rfl ?_
 refine c_exit (e_exit rfl ?_)
 refine e_block (e_seq (c_region (o_val (v := .int .i64 (((i + 1 : Nat) : Int))) (x_add rfl rfl (wrap_to (by omega) (by omega) (by omega))) (o_val (x_move rfl) (o_nil ?_)))))
 refine e_inv ⟨_, ?_, i + 1, acc, A, c, sb, rfl, (by omega), (by have etl : l.take j = l := List.take_of_length_le (by omega); rw [flat_take (by omega), List.foldl_append, ← hl, hacc, etl]), (hS), ⟨rfl, rfl, rfl, rfl, rfl, trivial⟩, hF⟩
 omega
 refine c_iff rfl ?_
 refine c_exit (e_exit rfl ?_)
 refine e_seq (c_seq (c_region (o_val (x_move rfl) (o_val (x_assign rfl) (o_nil (e_seq ?_))))))
 refine c_ret (e_ret (post_ret (res_1 (v := .slice (A) (acc.length) (c)) rfl rfl) ?_))
 have ei : i = rows.length := by omega
 subst ei
 rw [List.take_length] at hacc
 have e2 : acc = unionS rows := hacc
 subst e2
 refine ⟨_, _, rfl, ?_, hF.same⟩
 have hK : RX w0 [] w ((unionS rows).map strD) _ := lits_of (q := unionS rows) hlim
 exact hS.rep (pre := [_]) (post := []) hF hK (by simp)
end Go.Scarf
namespace Go.Scarf
open Go.RowKit Go.Proofs
theorem get_size (x : Tree) (key : Str) : sizeT (getV x key).1 ≤ sizeT x := by
  obtain ⟨k, t, ks, xs⟩ := x
  have hz : sizeT zeroT ≤ sizeT (.node k t ks xs) := by rw [zeroT, sizeT, sizeT, sizeTs]; omega
  unfold getV
  split
  · cases hl : lookT (Tree.node k t ks xs).keys (Tree.node k t ks xs).items key with
    | none => exact hz
    | some y =>
      have := sizeTs_mem (lookT_mem hl)
      have e : (Tree.node k t ks xs).items = xs := rfl
      rw [e] at this
      show sizeT y ≤ _
      rw [sizeT]; omega
  · exact hz
theorem get_max (x : Tree) (key : Str) : maxL (getV x key).1 ≤ maxL x := by
  obtain ⟨k, t, ks, xs⟩ := x
  have hz : maxL zeroT ≤ maxL (.node k t ks xs) := by simp [zeroT, maxL, maxKs, maxLs]
  unfold getV
  split
  · cases hl : lookT (Tree.node k t ks xs).keys (Tree.node k t ks xs).items key with
    | none => exact hz
    | some y =>
      have := maxLs_mem (lookT_mem hl)
      have e : (Tree.node k t ks xs).items = xs := rfl
      rw [e] at this
      show maxL y ≤ _
      rw [maxL]; omega
  · exact hz
theorem lim_step {acc : List Str} {x : Str} {N : Nat} (h : ∀ s ∈ acc, s.length ≤ N) (hx : x.length ≤ N) : ∀ s ∈ acc ++ [x], s.length ≤ N := fun s hs => by
  rcases List.mem_append.1 hs with h1 | h1
  · exact h s h1
  · rw [List.mem_singleton.1 h1]; exact hx
theorem idS_len {x : Tree} {key : Str} (hm : maxL x ≤ 1073741824) : (idS x key).length ≤ 140737488355328 := by
  unfold idS
  split
  · rw [compS]
    split
    · rename_i h
      exact right_lim h (Nat.le_trans (maxL_sorted _) (Nat.le_trans (get_max x key) hm)) _ _ _ (by omega) (by omega)
    · simp
  · simp
set_option maxHeartbeats 2000000 in
set_option maxRecDepth 10000 in
theorem id_c (x : Tree) (key : Str) (hsz : sizeT x ≤ 1000000000) (hm : maxL x ≤ 1073741824) (S : Nat → Prop) (w0 : World) (cs : List Value) (hR : Rep S w0 (treeD x) cs) (hG : Gl w0) : Calls Tryz.prog 29 #[.agg cs.toArray, .string (bs key)] w0 (Ret fun v w' => v = .tuple #[.string (bs (idS x key)), .bool (idB x key)] ∧ Same [] w0 w') := by
 have hl : cs.length = 4 := hR.length.trans (size_treeD x)
 have ho := hR.one_
 refine calls_start Tryz.func29 rfl Tryz.ntmps29 (Nat.le_of_ble_eq_true rfl) (args_2 _ _) ?_
 have hF := FR.start w0 []
 refine c_seq (c_region ?_)
 refine o_box (v := .agg (List.toArray cs)) (cs := (List.toArray cs)) hF rfl rfl ?_
 clear hF; rintro b1 w hb1 hF -
 refine o_val (x_assign rfl) (o_val (x_assign rfl) (o_nil (e_seq (c_seq (c_region (o_val (v := .agg (List.toArray cs)) (x_loadS (l := cs) Tryz.isAgg32 Tryz.sizeOf32 rfl hl (hF.cellsAll 0 rfl)) (o_val (x_move rfl) ?_)))))))
 refine o_call (getX_c x key (by omega) _ _ cs (hF.rep hR) (okT_max x (by omega)) (hG.ext hF.same)) (x_call2 en_44 rfl rfl rfl) ?_
 rintro _ w ⟨ct, rfl, hRt, hE⟩
 have hsz2 := get_size x key
 have hmx2 := get_max x key
 obtain ⟨y, hy⟩ : ∃ y, (getV x key).1 = y := ⟨_, rfl⟩
 rw [hy] at hRt hsz2 hmx2
 obtain ⟨k2, t2, ks2, xs2⟩ := y
 have hRt0 := hRt
 obtain ⟨A2, c2, B2, e2, rfl, -, -, -, -⟩ := hRt0.tree_inv
 replace hF := hF.ext hE
 clear hE hRt0
 refine o_val (x_move rfl) (o_val (x_extract rfl rfl) (o_val (x_extract rfl rfl) ?_))
 refine o_lay (l := [.int .i64 (k2), .string (bs (t2)), .slice (A2) (ks2.length) (c2), .slice (B2) (xs2.length) (e2)]) hF Tryz.zeroValue32 Tryz.sizeOf32 rfl (v := .agg #[.int .i64 (k2), .string (bs (t2)), .slice (A2) (ks2.length) (c2), .slice (B2) (xs2.length) (e2)]) rfl rfl (by simp [one]) rfl ?_
 clear hF; intro b2 w hb2 hF hE
 replace hRt := hRt.ext hE
 clear hE
 refine o_val (x_assign rfl) (o_nil (e_seq (c_seq (c_seq (c_region (o_val (x_move rfl) (o_val (v := .bool (!((getV x key).2))) (x_not rfl) (o_val (x_move rfl) ?_))))))))
 refine o_split (d := 18) (b := !((getV x key).2)) rfl (fun hg0 => ?_) (fun hg0 => ?_)
 refine o_off (o_off (o_off (o_off (o_off (o_off (o_off (o_off (o_val (x_pickt rfl rfl) (o_nil (e_seq (c_ift rfl (c_seq (c_region ?_)))))))))))))
 refine o_val (x_assign rfl) (o_val (x_assign rfl) (o_nil (e_seq ?_)))
 refine c_ret (e_ret (post_ret (res_2 (v := .string (bs ([]))) (x := .bool false) rfl rfl rfl) ?_))
 refine ⟨?_, hF.same⟩
 have hh : ((getV x key).2 && idK (getV x key).1) = false := by rw [hy, idK]; simp_all [Tree.kind]
 rw [idS, idB, hh]; rfl
 refine o_val (v := .pointer (some ⟨b2, 0, none⟩)) (x_fieldAddrO fa_32_0 rfl) (o_val (v := .int .i64 (k2)) (x_load Tryz.isAgg3 rfl (hF.cell 0 rfl rfl)) (o_val (v := .bool (decide ((k2 : Int) ≠ (4 : Int)))) (x_neq rfl rfl) (o_val (x_move rfl) ?_)))
 refine o_splitd (d := 22) (p := (k2 : Int) ≠ (4 : Int)) rfl (fun hg1 => ?_) (fun hg1 => ?_)
 refine o_val (v := .pointer (some ⟨b2, 0, none⟩)) (x_fieldAddrO fa_32_0 rfl) (o_val (v := .int .i64 (k2)) (x_load Tryz.isAgg3 rfl (hF.cell 0 rfl rfl)) (o_val (v := .bool (decide ((k2 : Int) ≠ (3 : Int)))) (x_neq rfl rfl) (o_val (x_pickt rfl rfl) (o_val (x_pickf rfl rfl) (o_nil (e_seq ?_))))))
 refine c_splitd (d := 27) (p := (k2 : Int) ≠ (3 : Int)) rfl (fun hc0 => ?_) (fun hc0 => ?_)
 refine c_ift rfl (c_seq (c_region (o_val (x_assign rfl) (o_val (x_assign rfl) (o_nil (e_seq ?_))))))
 refine c_ret (e_ret (post_ret (res_2 (v := .string (bs ([]))) (x := .bool false) rfl rfl rfl) ?_))
 refine ⟨?_, hF.same⟩
 have hh : ((getV x key).2 && idK (getV x key).1) = false := by rw [hy, idK]; simp_all [Tree.kind]
 rw [idS, idB, hh]; rfl
 refine c_iff rfl (c_skip (e_seq (c_seq (c_region (o_val (v := .agg #[.int .i64 (k2), .string (bs (t2)), .slice (A2) (ks2.length) (c2), .slice (B2) (xs2.length) (e2)]) (x_loadS (l := [.int .i64 (k2), .string (bs (t2)), .slice (A2) (ks2.length) (c2), .slice (B2) (xs2.length) (e2)]) Tryz.isAgg32 Tryz.sizeOf32 rfl rfl (hF.cellsAll 0 rfl)) ?_)))))
 refine o_call (canon_c (.node k2 t2 ks2 xs2) _ _ _ hRt (hG.ext hF.same) (by omega) (by omega)) (x_call1 en_45 rfl rfl) ?_
 rintro _ w ⟨rfl, hE⟩
 replace hF := hF.ext hE
 replace hRt := hRt.ext hE
 clear hE
 refine o_val (x_move rfl) (o_val (x_extract rfl rfl) (o_val (x_extract rfl rfl) (o_val (x_assign rfl) (o_val (x_assign rfl) (o_nil (e_seq (c_seq (c_region (o_val (x_move rfl) (o_val (x_move rfl) (o_val (v := .bool (decide ((compE (sortedV (.node k2 t2 ks2 xs2)) : Int) = (0 : Int)))) (x_eql rfl rfl) (o_val (x_assign rfl) (o_val (x_assign rfl) ?_)))))))))))))
 refine o_nil (e_seq ?_)
 refine c_ret (e_ret (post_ret (res_2 (v := .string (bs (compS (sortedV (.node k2 t2 ks2 xs2))))) (x := .bool (decide ((compE (sortedV (.node k2 t2 ks2 xs2)) : Int) = (0 : Int)))) rfl rfl rfl) ?_))
 refine ⟨?_, hF.same⟩
 have hh : ((getV x key).2 && idK (getV x key).1) = true := by rw [hy, idK]; simp_all [Tree.kind]
 rw [idS, idB, hh, hy]; rfl
 refine o_off (o_off (o_off (o_val (x_pickf rfl rfl) (o_val (x_pickf rfl rfl) (o_nil (e_seq (c_iff rfl (c_skip (e_seq (c_seq (c_region (o_val (v := .agg #[.int .i64 (k2), .string (bs (t2)), .slice (A2) (ks2.length) (c2), .slice (B2) (xs2.length) (e2)]) (x_loadS (l := [.int .i64 (k2), .string (bs (t2)), .slice (A2) (ks2.length) (c2), .slice (B2) (xs2.length) (e2)]) Tryz.isAgg32 Tryz.sizeOf32 rfl rfl (hF.cellsAll 0 rfl)) ?_))))))))))))
 refine o_call (canon_c (.node k2 t2 ks2 xs2) _ _ _ hRt (hG.ext hF.same) (by omega) (by omega)) (x_call1 en_45 rfl rfl) ?_
 rintro _ w ⟨rfl, hE⟩
 replace hF := hF.ext hE
 replace hRt := hRt.ext hE
 clear hE
 refine o_val (x_move rfl) (o_val (x_extract rfl rfl) (o_val (x_extract rfl rfl) (o_val (x_assign rfl) (o_val (x_assign rfl) (o_nil (e_seq (c_seq (c_region (o_val (x_move rfl) (o_val (x_move rfl) (o_val (v := .bool (decide ((compE (sortedV (.node k2 t2 ks2 xs2)) : Int) = (0 : Int)))) (x_eql rfl rfl) (o_val (x_assign rfl) (o_val (x_assign rfl) ?_)))))))))))))
 refine o_nil (e_seq ?_)
 refine c_ret (e_ret (post_ret (res_2 (v := .string (bs (compS (sortedV (.node k2 t2 ks2 xs2))))) (x := .bool (decide ((compE (sortedV (.node k2 t2 ks2 xs2)) : Int) = (0 : Int)))) rfl rfl rfl) ?_))
 refine ⟨?_, hF.same⟩
 have hh : ((getV x key).2 && idK (getV x key).1) = true := by rw [hy, idK]; simp_all [Tree.kind]
 rw [idS, idB, hh, hy]; rfl
set_option maxHeartbeats 4000000 in
set_option maxRecDepth 10000 in
theorem ids_node (k : Int) (t : Str) (ks : List Str) (xs : List Tree) (key : Str) (A : Option Addr) (c : Nat) (B : Option Addr) (e : Nat) (S : Nat → Prop) (w0 : World) (hsz : sizeT (.node k t ks xs) ≤ 1000000000) (hm : maxL (.node k t ks xs) ≤ 1073741824) (hR : Rep S w0 (treeD (.node k t ks xs)) [.int .i64 (k), .string (bs (t)), .slice (A) (ks.length) (c), .slice (B) (xs.length) (e)]) (hX : Rep S w0 (.slice (treesD xs)) [.slice B xs.length e]) (hxl : xs.length ≤ 1000000000) (hG : Gl w0) : Calls Tryz.prog 13 #[.agg #[.int .i64 (k), .string (bs (t)), .slice (A) (ks.length) (c), .slice (B) (xs.length) (e)], .string (bs key)] w0 (Ret fun v w' => ∃ A c, v = .tuple #[.slice A ((idsV (.node k t ks xs) key).getD []).length c, .bool (idsV (.node k t ks xs) key).isSome] ∧ Rep (Btw w0 w') w' (strsD ((idsV (.node k t ks xs) key).getD [])) [.slice A ((idsV (.node k t ks xs) key).getD []).length c] ∧ Same [] w0 w') := by
  refine calls_start Tryz.func13 rfl Tryz.ntmps13 (Nat.le_of_ble_eq_true rfl) (args_2 _ _) ?_
  have hF := FR.start w0 []
  refine c_seq ?_
  refine c_region ?_
  refine o_box (v := .agg #[.int .i64 (k), .string (bs (t)), .slice (A) (ks.length) (c), .slice (B) (xs.length) (e)]) (cs := #[.int .i64 (k), .string (bs (t)), .slice (A) (ks.length) (c), .slice (B) (xs.length) (e)]) hF rfl rfl ?_
  clear hF; intro b1 w hb1 hF hE
  clear hE
  refine o_val (x_assign rfl) ?_
  refine o_val (x_assign rfl) ?_
  refine o_nil ?_
  refine e_seq ?_
  refine c_seq ?_
  refine c_seq ?_
  refine c_region ?_
  refine o_val (v := .agg #[.int .i64 (k), .string (bs (t)), .slice (A) (ks.length) (c), .slice (B) (xs.length) (e)]) (x_loadS (l := [.int .i64 (k), .string (bs (t)), .slice (A) (ks.length) (c), .slice (B) (xs.length) (e)]) Tryz.isAgg32 Tryz.sizeOf32 rfl rfl (hF.cellsAll 0 rfl)) ?_
  refine o_call (right_v (.node k t ks xs) hsz _ _ _ (hF.rep hR) (okT_max _ (by omega)) (hG.ext hF.same)) (x_call1 en_28 rfl rfl) ?_
  rintro _ w ⟨rfl, hE⟩
  replace hF := hF.ext hE
  clear hE
  refine o_val (v := .bool (!(rightB (.node k t ks xs)))) (x_not rfl) ?_
  refine o_val (x_move rfl) ?_
  refine o_split (d := 15) (b := !(rightB (.node k t ks xs))) rfl (fun hg0 => ?_) (fun hg0 => ?_)
  ·
    refine o_off ?_
    refine o_off ?_
    refine o_off ?_
    refine o_val (x_pickt rfl rfl) ?_
    refine o_nil ?_
    refine e_seq ?_
    refine c_ift rfl ?_
    refine c_seq ?_
    refine c_region ?_
    refine o_val (x_assign rfl) ?_
    refine o_val (x_assign rfl) ?_
    refine o_nil ?_
    refine e_seq ?_
    refine c_ret (e_ret (post_ret (res_2 (v := .slice (none) (0) (0)) (x := .bool false) rfl rfl rfl) ?_))
    refine ⟨none, 0, ?_, ?_, hF.same⟩
    all_goals rw [show idsV (.node k t ks xs) key = none from (if_neg (fun h => by obtain ⟨h1, h2⟩ := h; simp_all [Tree.kind]))]
    · rfl
    · exact Rep.nil_slice 0 (by omega) none
  ·
    refine o_val (v := .pointer (some ⟨b1, 0, none⟩)) (x_fieldAddrO fa_32_0 rfl) ?_
    refine o_val (v := .int .i64 (k)) (x_load Tryz.isAgg3 rfl (hF.cell 0 rfl rfl)) ?_
    refine o_val (v := .bool (decide ((k : Int) ≠ (5 : Int)))) (x_neq rfl rfl) ?_
    refine o_val (x_pickf rfl rfl) ?_
    refine o_nil ?_
    refine e_seq ?_
    refine c_splitd (d := 19) (p := (k : Int) ≠ (5 : Int)) rfl (fun hc0 => ?_) (fun hc0 => ?_)
    ·
      refine c_ift rfl ?_
      refine c_seq ?_
      refine c_region ?_
      refine o_val (x_assign rfl) ?_
      refine o_val (x_assign rfl) ?_
      refine o_nil ?_
      refine e_seq ?_
      refine c_ret (e_ret (post_ret (res_2 (v := .slice (none) (0) (0)) (x := .bool false) rfl rfl rfl) ?_))
      refine ⟨none, 0, ?_, ?_, hF.same⟩
      all_goals rw [show idsV (.node k t ks xs) key = none from (if_neg (fun h => by obtain ⟨h1, h2⟩ := h; simp_all [Tree.kind]))]
      · rfl
      · exact Rep.nil_slice 0 (by omega) none
    ·
      refine c_iff rfl ?_
      refine c_skip ?_
      refine e_seq ?_
      refine c_seq ?_
      refine c_region ?_
      refine o_val (x_assign rfl) ?_
      refine o_nil ?_
      refine e_seq ?_
      refine c_seq ?_
      refine c_region ?_
      refine o_new (v := fun b => .map (some b)) hF (x_makeMap0 Tryz.underlying49) ?_
      clear hF; intro b2 w hb2 hF hE
      clear hE
      refine o_val (x_assign rfl) ?_
      refine o_nil ?_
      refine e_seq ?_
      refine c_seq ?_
      refine c_seq ?_
      refine c_region ?_
      refine o_val (v := .pointer (some ⟨b1, 3, none⟩)) (x_fieldAddrO fa_32_3 rfl) ?_
      refine o_val (v := .slice (B) (xs.length) (e)) (x_load Tryz.isAgg30 rfl (hF.cell 1 rfl rfl)) ?_
      refine o_val (v := .int .i64 ((xs.length : Nat))) (x_len_slice Tryz.underlying30 rfl) ?_
      refine o_val (x_move rfl) ?_
      refine o_nil ?_
      refine e_seq ?_
      refine c_block ?_
      have hr5 : rightB (.node k t ks xs) = true ∧ k = 5 := by simp_all
      replace hF : FR w0 [] ([(b2, mapO (keysM [])), (b1, .cells #[.int .i64 (k), .string (bs (t)), .slice (A) (ks.length) (c), .slice (B) (xs.length) (e)] 32)] ++ ([] ++ [])) w := hF
      refine c_loop (fun μ σ w => ∃ (i : Nat), ∃ (acc : List Str), ∃ (A1 : Option Addr), ∃ (c1 : Nat), ∃ (sb : List (Nat × Obj)), μ = xs.length - i ∧ (i ≤ xs.length) ∧ (idsK key (xs.drop i) acc = idsK key xs []) ∧ (acc.length = i) ∧ (∀ s ∈ acc, s.length ≤ 140737488355328) ∧ (SlB 9 1 A1 acc.length c1 (acc.map fun s => Value.string (bs s)) sb) ∧ AllEq σ [(1, .string (bs (key))), (6, .slice (A1) (acc.length) (c1)), (7, .map (some b2)), (22, .slice (B) (xs.length) (e)), (23, .int .i64 ((xs.length : Nat))), (24, .int .i64 ((i : Int)))] ∧ FR w0 [] ([(b2, mapO (keysM (acc))), (b1, .cells #[.int .i64 (k), .string (bs (t)), .slice (A) (ks.length) (c), .slice (B) (xs.length) (e)] 32)] ++ (sb ++ [])) w) _ ⟨0, [], none, 0, [], rfl, (Nat.zero_le _), (rfl), (rfl), (by simp), (SlB.nil _ _), ⟨rfl, rfl, rfl, rfl, rfl, rfl, trivial⟩, hF⟩ ?_
      clear hF; rintro μ σ w ⟨i, acc, A1, c1, sb, rfl, hi, hq, hal, hlim, hS, hs, hF⟩
      refine Cg.slots hs ?_
      clear hs; intro σ
      refine c_seq ?_
      refine c_region ?_
      refine o_val (v := .bool (decide (((i : Int) : Int) < ((xs.length : Nat) : Int)))) (x_lss rfl rfl) ?_
      refine o_nil ?_
      refine e_seq ?_
      refine c_seq ?_
      refine c_splitd (d := 25) (p := ((i : Int) : Int) < ((xs.length : Nat) : Int)) rfl (fun hc1 => ?_) (fun hc1 => ?_)
      ·
        refine c_ift rfl ?_
        refine c_skip ?_
        refine e_seq ?_
        refine c_seq ?_
        refine c_block ?_
        refine c_seq ?_
        refine c_region ?_
        obtain ⟨ad1, cs1, hA1, hl1, hk1, hx1⟩ := hX.tree_elem (i := i) (by omega)
        have ho1 := hx1.one_
        refine o_val (v := .pointer (some (ad1.add (i * 4)))) (x_indexAddrA (i := (i : Int)) sl_30 rfl hA1 rfl (by omega) (by omega)) ?_
        refine o_val (v := .agg (List.toArray cs1)) (x_loadS (l := cs1) Tryz.isAgg32 Tryz.sizeOf32 rfl hl1 (hF.cells0 hk1)) ?_
        refine o_lay (l := cs1) hF Tryz.zeroValue32 (by rw [hl1]; exact Tryz.sizeOf32) (by rw [hl1]; rfl) (v := .agg (List.toArray cs1)) rfl rfl (ho1) rfl ?_
        clear hF; intro b3 w hb3 hF hE
        clear hE
        refine o_nil ?_
        refine e_seq ?_
        refine c_seq ?_
        refine c_region ?_
        refine o_val (v := .agg (List.toArray cs1)) (x_loadS (l := cs1) Tryz.isAgg32 Tryz.sizeOf32 rfl hl1 (hF.cellsAll 0 rfl)) ?_
        refine o_val (x_move rfl) ?_
        refine o_call (id_c xs[i] key (by have := sizeTs_mem (List.getElem_mem (l := xs) (n := i) (by omega)); rw [sizeT] at hsz; omega) (by have := maxLs_mem (List.getElem_mem (l := xs) (n := i) (by omega)); rw [maxL] at hm; omega) _ _ cs1 (hF.rep hx1) (hG.ext hF.same)) (x_call2 en_29 rfl rfl rfl) ?_
        rintro _ w ⟨rfl, hE⟩
        replace hF := hF.ext hE
        clear hE
        refine o_val (x_move rfl) ?_
        refine o_val (x_extract rfl rfl) ?_
        refine o_val (x_extract rfl rfl) ?_
        refine o_val (x_assign rfl) ?_
        refine o_val (x_assign rfl) ?_
        refine o_nil ?_
        refine e_seq ?_
        refine c_seq ?_
        refine c_seq ?_
        refine c_region ?_
        refine o_val (x_move rfl) ?_
        refine o_val (v := .bool (!(idB xs[i] key))) (x_not rfl) ?_
        refine o_val (x_move rfl) ?_
        refine o_split (d := 36) (b := !(idB xs[i] key)) rfl (fun hg2 => ?_) (fun hg2 => ?_)
        ·
          refine o_off ?_
          refine o_off ?_
          refine o_off ?_
          refine o_val (x_pickt rfl rfl) ?_
          refine o_nil ?_
          refine e_seq ?_
          refine c_ift rfl ?_
          refine c_seq ?_
          refine c_region ?_
          refine o_val (x_assign rfl) ?_
          refine o_val (x_assign rfl) ?_
          refine o_nil ?_
          refine e_seq ?_
          refine c_ret (e_ret (post_ret (res_2 (v := .slice (none) (0) (0)) (x := .bool false) rfl rfl rfl) ?_))
          refine ⟨none, 0, ?_, ?_, hF.same⟩
          all_goals rw [show idsV (.node k t ks xs) key = none from (by rw [idsV, if_pos (show rightB (.node k t ks xs) = true ∧ (Tree.node k t ks xs).kind = 5 from hr5)]; show idsK key xs [] = none; rw [← hq]; exact idsK_stop (by omega) (fun h => by simp_all))]
          · rfl
          · exact Rep.nil_slice 0 (by omega) none
        ·
          refine o_val (x_move rfl) ?_
          refine o_val (x_move rfl) ?_
          refine o_val (v := .bool (decide (idS xs[i] key ∈ acc))) (x_lookupE Tryz.underlying49 Tryz.underlying9 Tryz.zeroValue4 rfl rfl (hF.heap (i := 1) rfl) (by rw [lookM_keys]; split <;> rename_i hh <;> simp only [hh, decide_true, decide_false] <;> rfl)) ?_
          refine o_val (x_pickf rfl rfl) ?_
          refine o_nil ?_
          refine e_seq ?_
          refine c_splitd (d := 40) (p := idS xs[i] key ∈ acc) rfl (fun hc2 => ?_) (fun hc2 => ?_)
          ·
            refine c_ift rfl ?_
            refine c_seq ?_
            refine c_region ?_
            refine o_val (x_assign rfl) ?_
            refine o_val (x_assign rfl) ?_
            refine o_nil ?_
            refine e_seq ?_
            refine c_ret (e_ret (post_ret (res_2 (v := .slice (none) (0) (0)) (x := .bool false) rfl rfl rfl) ?_))
            refine ⟨none, 0, ?_, ?_, hF.same⟩
            all_goals rw [show idsV (.node k t ks xs) key = none from (by rw [idsV, if_pos (show rightB (.node k t ks xs) = true ∧ (Tree.node k t ks xs).kind = 5 from hr5)]; show idsK key xs [] = none; rw [← hq]; exact idsK_stop (by omega) (fun h => by simp_all))]
            · rfl
            · exact Rep.nil_slice 0 (by omega) none
          ·
            have hid : idB xs[i] key = true := by simp_all
            have hnew : idS xs[i] key ∉ acc := by simp_all
            refine c_iff rfl ?_
            refine c_skip ?_
            refine e_seq ?_
            refine c_seq ?_
            refine c_region ?_
            refine o_val (x_move rfl) ?_
            refine o_val (x_move rfl) ?_
            refine o_mapUpdate 1 (v := .bool true) hF Tryz.underlying49 Tryz.underlying9 rfl rfl rfl rfl (by rw [lookM_keys, if_neg hnew]) ?_
            clear hF; intro w hF hE
            clear hE
            rw [keysM_snoc] at hF
            replace hF : FR w0 [] ([(b3, .cells (List.toArray cs1) 32), (b2, mapO (keysM (acc ++ [idS xs[i] key]))), (b1, .cells #[.int .i64 (k), .string (bs (t)), .slice (A) (ks.length) (c), .slice (B) (xs.length) (e)] 32)] ++ (sb ++ [])) w := hF
            refine o_nil ?_
            refine e_seq ?_
            refine c_region ?_
            refine o_val (x_move rfl) ?_
            refine o_val (x_move rfl) ?_
            refine o_new (v := fun b => .slice (some ⟨b, 0, none⟩) 1 1) hF (x_buildSlice (cs := #[.string (bs (idS xs[i] key))]) Tryz.underlying22 Tryz.sizeOf9 Tryz.zeroValue9 (by decide) (by decide) (by kernel_rfl)) ?_
            clear hF; intro b4 w hb4 hF hE
            clear hE
            refine o_append [(b4, .cells #[.string (bs (idS xs[i] key))] 9), (b3, .cells (List.toArray cs1) 32), (b2, mapO (keysM (acc ++ [idS xs[i] key]))), (b1, .cells #[.int .i64 (k), .string (bs (t)), .slice (A) (ks.length) (c), .slice (B) (xs.length) (e)] 32)] [] (news := [.string (bs (idS xs[i] key))]) (len' := (acc ++ [idS xs[i] key]).length) (ys := ((acc ++ [idS xs[i] key]).map fun s => Value.string (bs s))) el_22 hF hS rfl rfl (rfl) (fun _ => ⟨_, rfl, cells_opt (hF.cellsAll 0 rfl)⟩) (by simp [Value.oneCell']) (by simp only [maxLen]; omega) (by simp) (by simp) (by omega) ?_
            clear hF; intro A3 c3 o_3 w hS3_o hF hE hnew
            clear hE hnew
            refine o_val (x_assign rfl) ?_
            refine o_nil ?_
            refine e_block ?_
            refine e_seq ?_
            refine c_region ?_
            refine o_val (v := .int .i64 (((i + 1 : Nat) : Int))) (x_add rfl rfl (wrap_to (by omega) (by omega) (by omega))) ?_
            refine o_val (x_move rfl) ?_
            refine o_nil ?_
            refine e_inv ⟨_, ?_, i + 1, acc ++ [idS xs[i] key], A3, c3, o_3, rfl, (by omega), (by rw [← idsK_next (by omega) hid hnew]; exact hq), (by rw [List.length_append, hal]; rfl), (lim_step hlim (idS_len (by have := maxLs_mem (List.getElem_mem (l := xs) (n := i) (by omega)); rw [maxL] at hm; omega))), (hS3_o), ⟨rfl, rfl, rfl, rfl, rfl, rfl, trivial⟩, hF.drop 2⟩
            omega
      ·
        refine c_iff rfl ?_
        refine c_exit (e_exit rfl ?_)
        refine e_seq ?_
        refine c_seq ?_
        refine c_region ?_
        refine o_val (x_move rfl) ?_
        refine o_val (x_assign rfl) ?_
        refine o_val (x_assign rfl) ?_
        refine o_nil ?_
        refine e_seq ?_
        refine c_ret (e_ret (post_ret (res_2 (v := .slice (A1) (acc.length) (c1)) (x := .bool true) rfl rfl rfl) ?_))
        have ei : i = xs.length := by omega
        subst ei
        have hv : idsV (.node k t ks xs) key = some acc := by rw [idsV, if_pos (show rightB (.node k t ks xs) = true ∧ (Tree.node k t ks xs).kind = 5 from hr5)]; show idsK key xs [] = some acc; rw [← hq]; exact idsK_end (by omega)
        refine ⟨A1, c1, ?_, ?_, hF.same⟩
        all_goals rw [hv]
        · rfl
        · exact hS.rep (pre := [_, _]) (post := []) hF (show RX w0 [] w (acc.map strD) _ from lits_of (q := acc) (fun s hs => by have := hlim s hs; omega)) (by simp)
theorem ids_c (x : Tree) (key : Str) (hsz : sizeT x ≤ 1000000000) (hm : maxL x ≤ 1073741824) (S : Nat → Prop) (w0 : World) (cs : List Value) (hR : Rep S w0 (treeD x) cs) (hG : Gl w0) : Calls Tryz.prog 13 #[.agg cs.toArray, .string (bs key)] w0 (Ret fun v w' => ∃ A c, v = .tuple #[.slice A ((idsV x key).getD []).length c, .bool (idsV x key).isSome] ∧ Rep (Btw w0 w') w' (strsD ((idsV x key).getD [])) [.slice A ((idsV x key).getD []).length c] ∧ Same [] w0 w') := by
  obtain ⟨k, t, ks, xs⟩ := x
  have hR0 := hR
  obtain ⟨A, c, B, e, rfl, -, -, -, hX⟩ := hR0.tree_inv
  have h3 := sizeTs_len xs
  have h4 : sizeT (.node k t ks xs) = 1 + sizeTs xs := by rw [sizeT]
  exact ids_node k t ks xs key A c B e S w0 hsz hm hR hX (by omega) hG
end Go.Scarf
namespace Go.Scarf
open Go.RowKit Go.Proofs
theorem no_more {l : List Str} {key : Str} {j : Nat} (h : j < l.length) (hn : ∀ x ∈ l.take j, x ≠ key) (he : ¬ key = l[j]) : ∀ x ∈ l.take (j + 1), x ≠ key := by
  rw [List.take_succ_eq_append_getElem h]
  intro x hx
  rcases List.mem_append.1 hx with hx | hx
  · exact hn x hx
  · rw [List.mem_singleton.1 hx]; exact fun e => he e.symm
def idsL (x : Tree) (key : Str) : List Str := (idsV x key).getD []
def itemV (x : Tree) (key id : Str) : Tree × Bool := if id ∈ idsL x key then (x.items.getD ((idsL x key).idxOf id) zeroT, true) else (zeroT, false)
theorem idsV_some {x : Tree} {key : Str} {l : List Str} (h : idsV x key = some l) : rightB x = true ∧ x.kind = 5 ∧ idsK key x.items [] = some l := by
  unfold idsV at h
  split at h
  · rename_i hh; exact ⟨hh.1, hh.2, h⟩
  · cases h
theorem idsL_len {x : Tree} {key : Str} (h : idsL x key ≠ []) : (idsL x key).length = x.items.length ∧ rightB x = true := by
  unfold idsL at h ⊢
  cases hv : idsV x key with
  | none => rw [hv] at h; exact absurd rfl h
  | some l =>
    obtain ⟨h1, h2, h3⟩ := idsV_some hv
    have := idsK_len _ _ _ h3
    exact ⟨by simpa using this, h1⟩
theorem item_at {k : Int} {t : Str} {ks : List Str} {xs : List Tree} {key id : Str} (h : ¬ atZ (idsL (.node k t ks xs) key) id < 0) : ∃ (q : Nat) (hq : q < xs.length), atZ (idsL (.node k t ks xs) key) id = (q : Int) ∧ itemV (.node k t ks xs) key id = (xs[q], true) ∧ rightB xs[q] = true := by
  unfold atZ at h ⊢
  by_cases hm : id ∈ idsL (.node k t ks xs) key
  · have hne : idsL (.node k t ks xs) key ≠ [] := fun e => by rw [e] at hm; cases hm
    obtain ⟨h1, h2⟩ := idsL_len hne
    have e : (Tree.node k t ks xs).items = xs := rfl
    have h3 : (idsL (.node k t ks xs) key).idxOf id < (idsL (.node k t ks xs) key).length := List.idxOf_lt_length_iff.2 hm
    rw [e] at h1
    refine ⟨(idsL (.node k t ks xs) key).idxOf id, by omega, by rw [if_pos hm], ?_, right_kid h2 (List.getElem_mem _)⟩
    rw [itemV, if_pos hm, e]
    simp [List.getD, show (idsL (.node k t ks xs) key).idxOf id < xs.length by omega]
  · rw [if_neg hm] at h; omega
theorem item_no {x : Tree} {key id : Str} (h : atZ (idsL x key) id < 0) : itemV x key id = (zeroT, false) := by
  unfold atZ at h
  by_cases hm : id ∈ idsL x key
  · rw [if_pos hm] at h; omega
  · rw [itemV, if_neg hm]
set_option maxHeartbeats 1000000 in
set_option maxRecDepth 10000 in
theorem index_c (l : List Str) (key : Str) (A : Option Addr) (c : Nat) (S : Nat → Prop) (w0 : World) (hX : Rep S w0 (strsD l) [.slice A l.length c]) : Calls Tryz.prog 33 #[.slice A l.length c, .string (bs key)] w0 (Ret fun v w' => v = .int .i64 (atZ l key) ∧ Same [] w0 w') := by
 have hXl := hX.slice_len
 refine calls_start Tryz.func33 rfl Tryz.ntmps33 (Nat.le_of_ble_eq_true rfl) (args_2 _ _) ?_
 have hF := FR.start w0 []
 refine c_seq (c_region (o_val (x_assign rfl) (o_nil (e_seq (c_seq (c_seq (c_region (o_val (x_move rfl) (o_val (v := .int .i64 ((l.length : Nat))) (x_len_slice Tryz.underlying22 rfl) (o_val (x_move rfl) (o_nil (e_seq (c_block ?_)))))))))))))
 refine c_loop (fun μ σ w => ∃ (j : Nat), μ = l.length - j ∧ (j ≤ l.length) ∧ (∀ x ∈ l.take j, x ≠ key) ∧ AllEq σ [(0, .slice (A) (l.length) (c)), (1, .string (bs (key))), (7, .int .i64 ((l.length : Nat))), (8, .int .i64 ((j : Int)))] ∧ FR w0 [] [] w) _ ⟨0, rfl, (Nat.zero_le _), (by simp), ⟨rfl, rfl, rfl, rfl, trivial⟩, hF⟩ ?_
 clear hF; rintro μ σ w ⟨j, rfl, hj, hno, hs, hF⟩
 refine Cg.slots hs ?_
 clear hs; intro σ
 refine c_seq (c_region (o_val (v := .bool (decide (((j : Int) : Int) < ((l.length : Nat) : Int)))) (x_lss rfl rfl) (o_nil (e_seq (c_seq ?_)))))
 refine c_splitd (d := 9) (p := ((j : Int) : Int) < ((l.length : Nat) : Int)) rfl (fun hc0 => ?_) (fun hc0 => ?_)
 refine c_ift rfl (c_skip (e_seq (c_seq (c_block (c_seq (c_region (o_val (x_move rfl) (o_val (x_assign rfl) (o_nil (e_seq (c_seq (c_region (o_val (x_move rfl) ?_)))))))))))))
 refine o_val (x_move rfl) (o_val (x_move rfl) ?_)
 obtain ⟨ad0, hA0, hk0, hx0⟩ := hX.str_elem (i := j) (by omega)
 refine o_val (v := .pointer (some (ad0.add (j * 1)))) (x_indexAddrA (i := (j : Int)) sl_22 rfl hA0 rfl (by omega) (by omega)) (o_val (v := .string (bs (l[j]))) (x_load Tryz.isAgg9 rfl (hF.cell0 hk0)) (o_val (v := .bool (decide ((key : Str) = l[j]))) (x_eqls rfl rfl) (o_nil (e_seq ?_))))
 refine c_splitd (d := 16) (p := (key : Str) = l[j]) rfl (fun hc1 => ?_) (fun hc1 => ?_)
 refine c_ift rfl (c_seq (c_region (o_val (x_move rfl) (o_val (x_assign rfl) (o_nil (e_seq ?_))))))
 refine c_ret (e_ret (post_ret (res_1 (v := .int .i64 ((j : Int))) rfl rfl) ?_))
 exact ⟨by rw [at_found (by omega) hno (Eq.symm (by assumption))], hF.same⟩
 refine c_iff rfl (c_skip (e_block (e_seq (c_region (o_val (v := .int .i64 (((j + 1 : Nat) : Int))) (x_add rfl rfl (wrap_to (by omega) (by omega) (by omega))) (o_val (x_move rfl) (o_nil ?_)))))))
 refine e_inv ⟨_, ?_, j + 1, rfl, (by omega), (no_more (by omega) hno (by assumption)), ⟨rfl, rfl, rfl, rfl, trivial⟩, hF⟩
 omega
 refine c_iff rfl ?_
 refine c_exit (e_exit rfl ?_)
 refine e_seq (c_seq (c_region (o_val (x_assign rfl) (o_nil (e_seq ?_)))))
 refine c_ret (e_ret (post_ret (res_1 (v := .int .i64 ((-1))) rfl rfl) ?_))
 exact ⟨by rw [at_none (by rw [List.take_of_length_le (by omega)] at hno; exact hno)], hF.same⟩
set_option maxHeartbeats 4000000 in
set_option maxRecDepth 10000 in
theorem item_node (k : Int) (t : Str) (ks : List Str) (xs : List Tree) (key id : Str) (A : Option Addr) (c : Nat) (B : Option Addr) (e : Nat) (S : Nat → Prop) (w0 : World) (hsz : sizeT (.node k t ks xs) ≤ 1000000000) (hm : maxL (.node k t ks xs) ≤ 1073741824) (hR : Rep S w0 (treeD (.node k t ks xs)) [.int .i64 (k), .string (bs (t)), .slice (A) (ks.length) (c), .slice (B) (xs.length) (e)]) (hX : Rep S w0 (.slice (treesD xs)) [.slice B xs.length e]) (hxl : xs.length ≤ 1000000000) (hG : Gl w0) : Calls Tryz.prog 15 #[.agg #[.int .i64 (k), .string (bs (t)), .slice (A) (ks.length) (c), .slice (B) (xs.length) (e)], .string (bs key), .string (bs id)] w0 (Ret fun v w' => ∃ ct : List Value, v = .tuple #[.agg ct.toArray, .bool (itemV (.node k t ks xs) key id).2] ∧ Rep (Btw w0 w') w' (treeD (itemV (.node k t ks xs) key id).1) ct ∧ Same [] w0 w') := by
 refine calls_start Tryz.func15 rfl Tryz.ntmps15 (Nat.le_of_ble_eq_true rfl) (args_3 _ _ _) ?_
 have hF := FR.start w0 []
 refine c_seq (c_region ?_)
 refine o_box (v := .agg #[.int .i64 (k), .string (bs (t)), .slice (A) (ks.length) (c), .slice (B) (xs.length) (e)]) (cs := #[.int .i64 (k), .string (bs (t)), .slice (A) (ks.length) (c), .slice (B) (xs.length) (e)]) hF rfl rfl ?_
 clear hF; rintro b1 w hb1 hF -
 refine o_alloc (cs := #[.int .i64 (0), .string (bs ([])), .slice (none) (0) (0), .slice (none) (0) (0)]) hF Tryz.zeroValue32 rfl ?_
 clear hF; rintro b2 w hb2 hF -
 refine o_val (x_assign rfl) (o_nil (e_seq (c_seq (c_region (o_val (v := .agg #[.int .i64 (k), .string (bs (t)), .slice (A) (ks.length) (c), .slice (B) (xs.length) (e)]) (x_loadS (l := [.int .i64 (k), .string (bs (t)), .slice (A) (ks.length) (c), .slice (B) (xs.length) (e)]) Tryz.isAgg32 Tryz.sizeOf32 rfl rfl (hF.cellsAll 1 rfl)) (o_val (x_move rfl) ?_))))))
 refine o_call (ids_c (.node k t ks xs) key hsz hm _ _ [.int .i64 (k), .string (bs (t)), .slice (A) (ks.length) (c), .slice (B) (xs.length) (e)] (hF.rep hR) (hG.ext hF.same)) (x_call2 en_13 rfl rfl rfl) ?_
 rintro _ w ⟨A1, c1, rfl, hL, hE⟩
 have hL2 : Rep (fun _ => True) w (strsD (idsL (.node k t ks xs) key)) [.slice A1 (idsL (.node k t ks xs) key).length c1] := hL.weaken fun _ _ _ => trivial
 replace hF := hF.ext hE
 clear hE hL
 refine o_val (x_move rfl) (o_val (x_extract rfl rfl) (o_val (x_extract rfl rfl) (o_val (x_assign rfl) (o_val (x_assign rfl) (o_nil (e_seq (c_seq (c_region (o_val (x_move rfl) (o_val (x_move rfl) ?_))))))))))
 refine o_call (index_c (idsL (.node k t ks xs) key) id A1 c1 _ _ hL2) (x_call2 en_33 rfl rfl rfl) ?_
 rintro _ w ⟨rfl, hE⟩
 replace hF := hF.ext hE
 replace hL2 := hL2.ext hE
 clear hE
 refine o_val (x_assign rfl) (o_nil (e_seq (c_seq (c_seq (c_region (o_val (x_move rfl) (o_val (v := .bool (decide ((atZ (idsL (.node k t ks xs) key) id : Int) < (0 : Int)))) (x_lss rfl rfl) (o_nil (e_seq ?_)))))))))
 refine c_splitd (d := 21) (p := (atZ (idsL (.node k t ks xs) key) id : Int) < (0 : Int)) rfl (fun hc0 => ?_) (fun hc0 => ?_)
 refine c_ift rfl (c_seq (c_region ?_))
 refine o_val (w' := w) (v := .agg #[.int .i64 (0), .string (bs ([])), .slice (none) (0) (0), .slice (none) (0) (0)]) (by kernel_rfl) ?_
 refine o_store 0 (l := [.int .i64 (0), .string (bs ([])), .slice (none) (0) (0), .slice (none) (0) (0)]) (cs' := #[.int .i64 (0), .string (bs ([])), .slice (none) (0) (0), .slice (none) (0) (0)]) hF Tryz.sizeOf32 rfl (v := .agg #[.int .i64 (0), .string (bs ([])), .slice (none) (0) (0), .slice (none) (0) (0)]) rfl rfl (by simp [one]) rfl (Nat.le_of_ble_eq_true rfl) rfl ?_
 clear hF; rintro w hF -
 replace hF : FR w0 [] [(b2, .cells #[.int .i64 (0), .string (bs ([])), .slice (none) (0) (0), .slice (none) (0) (0)] 32), (b1, .cells #[.int .i64 (k), .string (bs (t)), .slice (A) (ks.length) (c), .slice (B) (xs.length) (e)] 32)] w := hF
 refine o_val (x_assign rfl) (o_nil (e_seq ?_))
 refine c_ret (e_ret (post_ret (res_ct rfl (l := [.int .i64 (0), .string (bs ([])), .slice (none) (0) (0), .slice (none) (0) (0)]) rfl Tryz.isAgg32 Tryz.sizeOf32 rfl (hF.cellsAll 0 rfl) (v := .bool false) rfl) ?_))
 rw [item_no (by assumption)]
 exact ⟨_, rfl, zero_rep _ _, hF.same⟩
 obtain ⟨q, hqx, hq, hit, hrq⟩ := item_at (id := id) (by assumption)
 rw [hq]
 refine c_iff rfl (c_skip (e_seq (c_seq (c_region (o_val (v := .pointer (some ⟨b1, 3, none⟩)) (x_fieldAddrO fa_32_3 rfl) (o_val (v := .slice (B) (xs.length) (e)) (x_load Tryz.isAgg30 rfl (hF.cell 1 rfl rfl)) (o_val (x_move rfl) ?_)))))))
 obtain ⟨ad0, cs0, hA0, hl0, hk0, hx0⟩ := hX.tree_elem (i := q) (hqx)
 have ho0 := hx0.one_
 refine o_val (v := .pointer (some (ad0.add (q * 4)))) (x_indexAddrA (i := (q : Int)) sl_30 rfl hA0 rfl (by omega) (by omega)) (o_val (v := .agg (List.toArray cs0)) (x_loadS (l := cs0) Tryz.isAgg32 Tryz.sizeOf32 rfl hl0 (hF.cells0 hk0)) ?_)
 refine o_call (copyV_c xs[q] (by have := sizeTs_mem (List.getElem_mem hqx); rw [sizeT] at hsz; omega) _ _ cs0 (hF.rep hx0) (okT_max _ (by have := maxLs_mem (List.getElem_mem hqx); rw [maxL] at hm; omega)) (hG.ext hF.same)) (x_call1 en_34 rfl rfl) ?_
 rintro _ w ⟨ct, rfl, hRt, hE⟩
 rw [copy_right hrq] at hRt
 have hlt : ct.length = 4 := hRt.length.trans (size_treeD _)
 have hot := hRt.one_
 have hYX := RX.made (ids := [b2, b1]) hF.same.size (fun x hx => hF.lt_ids (by grind)) hRt
 replace hF := hF.ext hE
 clear hE hRt
 refine o_store 0 (l := ct) (cs' := (List.toArray ct)) hF (by rw [hlt]; exact Tryz.sizeOf32) rfl (v := .agg (List.toArray ct)) rfl rfl (hot) rfl (by rw [hlt]; exact Nat.le_of_ble_eq_true rfl) (putA_all (by rw [hlt]; rfl)) ?_
 clear hF; intro w hF hE
 replace hYX := hYX.store hE (by simp)
 clear hE
 replace hF : FR w0 [] [(b2, .cells (List.toArray ct) 32), (b1, .cells #[.int .i64 (k), .string (bs (t)), .slice (A) (ks.length) (c), .slice (B) (xs.length) (e)] 32)] w := hF
 refine o_val (x_assign rfl) (o_nil (e_seq ?_))
 refine c_ret (e_ret (post_ret (res_ct rfl (l := ct) rfl Tryz.isAgg32 Tryz.sizeOf32 hlt (hF.cellsAll 0 rfl) (v := .bool true) rfl) ?_))
 rw [hit]
 · exact ⟨_, rfl, hYX.done, hF.same⟩
theorem keyItem_c (x : Tree) (key id : Str) (hsz : sizeT x ≤ 1000000000) (hm : maxL x ≤ 1073741824) (S : Nat → Prop) (w0 : World) (cs : List Value) (hR : Rep S w0 (treeD x) cs) (hG : Gl w0) : Calls Tryz.prog 15 #[.agg cs.toArray, .string (bs key), .string (bs id)] w0 (Ret fun v w' => ∃ ct : List Value, v = .tuple #[.agg ct.toArray, .bool (itemV x key id).2] ∧ Rep (Btw w0 w') w' (treeD (itemV x key id).1) ct ∧ Same [] w0 w') := by
  obtain ⟨k, t, ks, xs⟩ := x
  have hR0 := hR
  obtain ⟨A, c, B, e, rfl, -, -, -, hX⟩ := hR0.tree_inv
  have h3 := sizeTs_len xs
  have h4 : sizeT (.node k t ks xs) = 1 + sizeTs xs := by rw [sizeT]
  exact item_node k t ks xs key id A c B e S w0 hsz hm hR hX (by omega) hG
end Go.Scarf
