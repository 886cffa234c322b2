/- A part of the proof. -/
import Derived.Test.YtpliibolgknenaaGreatDoorTd1
import Derived.Test.YtpliibolgknenaaGreatDoorTr
import Derived.Test.YtpliibolgknenaaGreatDoorMore
import Derived.Test.YtpliibolgknenaaGreatDoorFacts
import Derived.Test.YtpliibolgknenaaGreatDoorRow
import Derived.Test.YtpliibolgknenaaGreatDoorS1
set_option linter.all false
namespace Go.Scarf
open Go.RowKit Go.Proofs
def fewN (ls : List Str) (fs : List Int) (m : Int) : Bool := (ls.all fun s => decide (s.length ≤ 1024)) && (decide ((ls.length : Int) ≤ m) && decide ((fs.length : Int) ≤ 600))
theorem fewN_no {ls : List Str} {fs : List Int} {m : Int} {j : Nat} (h : j < ls.length) (hs : (1024 : Int) < (ls[j].length : Int)) : fewN ls fs m = false := by
  unfold fewN
  have : (ls.all fun s => decide (s.length ≤ 1024)) = false := by
    rw [Bool.eq_false_iff]
    intro ha
    have := List.all_eq_true.1 ha ls[j] (List.getElem_mem h)
    rw [decide_eq_true_eq] at this
    omega
  rw [this]; rfl
theorem fewN_step {l : List Str} {j : Nat} (hs : ∀ i (h : i < l.length), i < j → l[i].length ≤ 1024) (hj : ∀ h : j < l.length, l[j].length ≤ 1024) : ∀ i (h : i < l.length), i < j + 1 → l[i].length ≤ 1024 := fun i h h2 => by
  by_cases e : i = j
  · subst e; exact hj h
  · exact hs i h (by omega)
theorem fewN_end {ls : List Str} {fs : List Int} {m : Int} {j : Nat} (hj : ∀ i (h : i < ls.length), i < j → ls[i].length ≤ 1024) (he : ¬ (j < ls.length ∧ (j : Int) ≤ m)) (hm : (ls.length : Int) ≤ m) : fewN ls fs m = decide ((fs.length : Int) ≤ 600) := by
  unfold fewN
  have : (ls.all fun s => decide (s.length ≤ 1024)) = true := by
    rw [List.all_eq_true]
    intro s hs
    obtain ⟨i, hi, rfl⟩ := List.getElem_of_mem hs
    rw [decide_eq_true_eq]
    exact hj i hi (by omega)
  rw [this, decide_eq_true hm]; rfl
theorem fewN_much {ls : List Str} {fs : List Int} {m : Int} (hm : ¬ (ls.length : Int) ≤ m) : fewN ls fs m = false := by
  unfold fewN
  rw [decide_eq_false hm]; simp
theorem fewN_ok {ls : List Str} {fs : List Int} {m : Int} (h : fewN ls fs m = true) : (∀ s ∈ ls, s.length ≤ 1024) ∧ (ls.length : Int) ≤ m ∧ fs.length ≤ 600 := by
  unfold fewN at h
  simp only [Bool.and_eq_true, decide_eq_true_eq, List.all_eq_true] at h
  exact ⟨h.1, h.2.1, by omega⟩
set_option maxHeartbeats 2000000 in
set_option maxRecDepth 10000 in
theorem fewN_c (S : Nat → Prop) (w0 : World) (la : List Str) (fa : List Int) (Aa Ba : Option Addr) (ca ea : Nat) (hLa : Rep S w0 (strsD la) [.slice Aa la.length ca]) (hNa : Rep S w0 (.slice (fa.map intD)) [.slice Ba fa.length ea]) (m : Int) : Calls Tryz.prog 13 #[.agg #[.slice Aa la.length ca, .slice Ba fa.length ea], .int .i64 m] w0 (Ret fun v w' => v = .bool (fewN la fa m) ∧ Same [] w0 w') := by
 have hLla := hLa.slice_len
 have hNla := hNa.slice_len
 rw [List.length_map] at hLla hNla
 refine calls_start Tryz.func13 rfl Tryz.ntmps13 (Nat.le_of_ble_eq_true rfl) (args_2 _ _) ?_
 have hF := FR.start w0 []
 refine c_seq (c_region ?_)
 refine o_box (v := .agg #[.slice (Aa) (la.length) (ca), .slice (Ba) (fa.length) (ea)]) (cs := #[.slice (Aa) (la.length) (ca), .slice (Ba) (fa.length) (ea)]) hF rfl rfl ?_
 clear hF; rintro b1 w hb1 hF -
 refine o_val (x_assign rfl) (o_nil (e_seq (c_seq (c_seq (c_region (o_val (x_assign rfl) (o_nil (e_seq (c_block ?_)))))))))
 refine c_loop (fun μ σ w => ∃ (j : Nat), μ = la.length - j ∧ (j ≤ la.length) ∧ (∀ i (h : i < la.length), i < j → la[i].length ≤ 1024) ∧ AllEq σ [(1, .int .i64 (m)), (2, .pointer (some ⟨b1, 0, none⟩)), (5, .int .i64 ((j : Int)))] ∧ FR w0 [] [(b1, .cells #[.slice (Aa) (la.length) (ca), .slice (Ba) (fa.length) (ea)] 30)] w) _ ⟨0, rfl, (by omega), (fun i _ h => by omega), ⟨rfl, rfl, rfl, trivial⟩, hF⟩ ?_
 clear hF; rintro μ σ w ⟨j, rfl, hj, hs_, hs, hF⟩
 refine Cg.slots hs ?_
 clear hs; intro σ
 refine c_seq (c_seq (c_region (o_val (x_move rfl) (o_val (v := .pointer (some ⟨b1, 0, none⟩)) (x_fieldAddrO fa_30_0 rfl) (o_val (v := .slice (Aa) (la.length) (ca)) (x_load Tryz.isAgg22 rfl (hF.cell 0 rfl rfl)) (o_val (v := .int .i64 ((la.length : Nat))) (x_len_slice Tryz.underlying22 rfl) (o_val (v := .bool (decide (((j : Int) : Int) < ((la.length : Nat) : Int)))) (x_lss rfl rfl) (o_val (x_move rfl) ?_))))))))
 refine o_splitd (d := 11) (p := ((j : Int) : Int) < ((la.length : Nat) : Int)) rfl (fun hg0 => ?_) (fun hg0 => ?_)
 refine o_val (x_move rfl) (o_val (x_move rfl) (o_val (v := .bool (decide (((j : Int) : Int) ≤ (m : Int)))) (x_leq rfl rfl) (o_val (x_pickt rfl rfl) (o_nil (e_seq ?_)))))
 refine c_splitd (d := 15) (p := ((j : Int) : Int) ≤ (m : Int)) rfl (fun hc0 => ?_) (fun hc0 => ?_)
 refine c_ift rfl (c_skip (e_seq (c_seq (c_block (c_seq (c_region (o_val (v := .pointer (some ⟨b1, 0, none⟩)) (x_fieldAddrO fa_30_0 rfl) (o_val (v := .slice (Aa) (la.length) (ca)) (x_load Tryz.isAgg22 rfl (hF.cell 0 rfl rfl)) (o_val (x_move rfl) ?_)))))))))
 obtain ⟨ad1, hA1, hk1, hx1⟩ := hLa.str_elem (i := j) (by omega)
 refine o_val (v := .pointer (some (ad1.add (j * 1)))) (x_indexAddrA (i := (j : Int)) sl_22 rfl hA1 rfl (by omega) (by omega)) (o_val (v := .string (bs (la[j]))) (x_load Tryz.isAgg9 rfl (hF.cell0 hk1)) (o_val (v := .int .i64 ((((la[j]) : Str).length : Int))) (x_len_string Tryz.underlying9 rfl) (o_val (v := .bool (decide ((1024 : Int) < ((((la[j]) : Str).length : Int) : Int)))) (x_gtr rfl rfl) (o_nil (e_seq ?_)))))
 refine c_splitd (d := 24) (p := (1024 : Int) < ((((la[j]) : Str).length : Int) : Int)) rfl (fun hc1 => ?_) (fun hc1 => ?_)
 refine c_ift rfl (c_seq (c_region (o_val (x_assign rfl) (o_nil (e_seq ?_)))))
 refine c_ret (e_ret (post_ret (res_1 (v := .bool false) rfl rfl) ?_))
 exact ⟨congrArg Value.bool (fewN_no (j := j) (by omega) (by assumption)).symm, hF.same⟩
 refine c_iff rfl (c_skip (e_block (e_seq (c_region (o_val (x_move rfl) (o_val (v := .int .i64 (((j + 1 : Nat) : Int))) (x_add rfl rfl (wrap_to (by omega) (by omega) (by omega))) (o_val (x_assign rfl) (o_nil ?_))))))))
 refine e_inv ⟨_, ?_, j + 1, rfl, (by omega), (fewN_step hs_ (fun _ => by omega)), ⟨rfl, rfl, rfl, trivial⟩, hF⟩
 omega
 refine c_iff rfl ?_
 refine c_exit (e_exit rfl ?_)
 refine e_seq (c_seq (c_region (o_val (v := .pointer (some ⟨b1, 0, none⟩)) (x_fieldAddrO fa_30_0 rfl) (o_val (v := .slice (Aa) (la.length) (ca)) (x_load Tryz.isAgg22 rfl (hF.cell 0 rfl rfl)) (o_val (v := .int .i64 ((la.length : Nat))) (x_len_slice Tryz.underlying22 rfl) (o_val (x_move rfl) (o_val (v := .bool (decide (((la.length : Nat) : Int) ≤ (m : Int)))) (x_leq rfl rfl) (o_val (x_move rfl) ?_))))))))
 refine o_splitd (d := 30) (p := ((la.length : Nat) : Int) ≤ (m : Int)) rfl (fun hg2 => ?_) (fun hg2 => ?_)
 refine o_val (v := .pointer (some ⟨b1, 1, none⟩)) (x_fieldAddrO fa_30_1 rfl) (o_val (v := .slice (Ba) (fa.length) (ea)) (x_load Tryz.isAgg28 rfl (hF.cell 0 rfl rfl)) (o_val (v := .int .i64 ((fa.length : Nat))) (x_len_slice Tryz.underlying28 rfl) (o_val (v := .bool (decide (((fa.length : Nat) : Int) ≤ (600 : Int)))) (x_leq rfl rfl) (o_val (x_pickt rfl rfl) (o_val (x_assign rfl) (o_nil (e_seq ?_)))))))
 refine c_ret (e_ret (post_ret (res_1 (v := .bool (decide (((fa.length : Nat) : Int) ≤ (600 : Int)))) rfl rfl) ?_))
 first | exact ⟨congrArg Value.bool (fewN_end (j := j) hs_ (by omega) (by assumption)).symm, hF.same⟩ | exact ⟨congrArg Value.bool (fewN_much (by assumption)).symm, hF.same⟩
 refine o_off (o_off (o_off (o_off (o_val (x_pickf rfl rfl) (o_val (x_assign rfl) (o_nil (e_seq ?_)))))))
 refine c_ret (e_ret (post_ret (res_1 (v := .bool false) rfl rfl) ?_))
 first | exact ⟨congrArg Value.bool (fewN_end (j := j) hs_ (by omega) (by assumption)).symm, hF.same⟩ | exact ⟨congrArg Value.bool (fewN_much (by assumption)).symm, hF.same⟩
 refine o_off (o_off (o_off (o_val (x_pickf rfl rfl) (o_nil (e_seq (c_iff rfl ?_))))))
 refine c_exit (e_exit rfl ?_)
 refine e_seq (c_seq (c_region (o_val (v := .pointer (some ⟨b1, 0, none⟩)) (x_fieldAddrO fa_30_0 rfl) (o_val (v := .slice (Aa) (la.length) (ca)) (x_load Tryz.isAgg22 rfl (hF.cell 0 rfl rfl)) (o_val (v := .int .i64 ((la.length : Nat))) (x_len_slice Tryz.underlying22 rfl) (o_val (x_move rfl) (o_val (v := .bool (decide (((la.length : Nat) : Int) ≤ (m : Int)))) (x_leq rfl rfl) (o_val (x_move rfl) ?_))))))))
 refine o_splitd (d := 30) (p := ((la.length : Nat) : Int) ≤ (m : Int)) rfl (fun hg3 => ?_) (fun hg3 => ?_)
 refine o_val (v := .pointer (some ⟨b1, 1, none⟩)) (x_fieldAddrO fa_30_1 rfl) (o_val (v := .slice (Ba) (fa.length) (ea)) (x_load Tryz.isAgg28 rfl (hF.cell 0 rfl rfl)) (o_val (v := .int .i64 ((fa.length : Nat))) (x_len_slice Tryz.underlying28 rfl) (o_val (v := .bool (decide (((fa.length : Nat) : Int) ≤ (600 : Int)))) (x_leq rfl rfl) (o_val (x_pickt rfl rfl) (o_val (x_assign rfl) (o_nil (e_seq ?_)))))))
 refine c_ret (e_ret (post_ret (res_1 (v := .bool (decide (((fa.length : Nat) : Int) ≤ (600 : Int)))) rfl rfl) ?_))
 first | exact ⟨congrArg Value.bool (fewN_end (j := j) hs_ (by omega) (by assumption)).symm, hF.same⟩ | exact ⟨congrArg Value.bool (fewN_much (by assumption)).symm, hF.same⟩
 refine o_off (o_off (o_off (o_off (o_val (x_pickf rfl rfl) (o_val (x_assign rfl) (o_nil (e_seq ?_)))))))
 refine c_ret (e_ret (post_ret (res_1 (v := .bool false) rfl rfl) ?_))
 first | exact ⟨congrArg Value.bool (fewN_end (j := j) hs_ (by omega) (by assumption)).symm, hF.same⟩ | exact ⟨congrArg Value.bool (fewN_much (by assumption)).symm, hF.same⟩
theorem rows_eq {α : Type} {a b : List α} {j : Nat} (h : ∀ i (h : i < a.length) (h2 : i < b.length), i < j → a[i] = b[i]) (hl : a.length = b.length) (hj : a.length ≤ j) : a = b := List.ext_getElem hl fun i h1 h2 => h i h1 h2 (by omega)
theorem rows_step {α : Type} {a b : List α} {j : Nat} {h1 : j < a.length} {h2 : j < b.length} (hq : ∀ i (h : i < a.length) (h2 : i < b.length), i < j → a[i] = b[i]) (h : a[j] = b[j]) : ∀ i (h : i < a.length) (h2 : i < b.length), i < j + 1 → a[i] = b[i] := fun i h3 h4 h5 => by
  by_cases e : i = j
  · subst e; exact h
  · exact hq i h3 h4 (by omega)
set_option maxHeartbeats 2000000 in
set_option maxRecDepth 10000 in
theorem ints_c (S S' : Nat → Prop) (w0 : World) (a b : List Int) (A B : Option Addr) (c e : Nat) (hX : Rep S w0 (.slice (a.map intD)) [.slice A a.length c]) (hY : Rep S' w0 (.slice (b.map intD)) [.slice B b.length e]) : Calls Tryz.prog 21 #[.slice A a.length c, .slice B b.length e] w0 (Ret fun v w' => v = .bool (decide (a = b)) ∧ Same [] w0 w') := by
 have hXl := hX.slice_len
 have hYl := hY.slice_len
 rw [List.length_map] at hXl hYl
 refine calls_start Tryz.func21 rfl Tryz.ntmps21 (Nat.le_of_ble_eq_true rfl) (args_2 _ _) ?_
 have hF := FR.start w0 []
 refine c_seq (c_region (o_val (x_assign rfl) (o_nil (e_seq (c_seq (c_seq (c_region (o_val (x_move rfl) (o_val (v := .int .i64 ((a.length : Nat))) (x_len_slice Tryz.underlying28 rfl) (o_val (x_move rfl) (o_val (v := .int .i64 ((b.length : Nat))) (x_len_slice Tryz.underlying28 rfl) (o_val (v := .bool (decide (((a.length : Nat) : Int) ≠ ((b.length : Nat) : Int)))) (x_neq rfl rfl) (o_nil ?_)))))))))))))
 refine e_seq ?_
 refine c_splitd (d := 10) (p := ((a.length : Nat) : Int) ≠ ((b.length : Nat) : Int)) rfl (fun hc0 => ?_) (fun hc0 => ?_)
 refine c_ift rfl (c_seq (c_region (o_val (x_assign rfl) (o_nil (e_seq ?_)))))
 refine c_ret (e_ret (post_ret (res_1 (v := .bool false) rfl rfl) ?_))
 exact ⟨congrArg Value.bool (decide_eq_false fun q => by subst q; omega).symm, hF.same⟩
 refine c_iff rfl (c_skip (e_seq (c_seq (c_seq (c_region (o_val (x_assign rfl) (o_nil (e_seq (c_block ?_)))))))))
 have hll : a.length = b.length := by omega
 refine c_loop (fun μ σ w => ∃ (j : Nat), μ = a.length - j ∧ (j ≤ a.length) ∧ (∀ i (h : i < a.length) (h2 : i < b.length), i < j → a[i] = b[i]) ∧ AllEq σ [(0, .slice (A) (a.length) (c)), (1, .slice (B) (b.length) (e)), (5, .int .i64 ((j : Int)))] ∧ FR w0 [] [] w) _ ⟨0, rfl, (by omega), (fun i _ _ h => by omega), ⟨rfl, rfl, rfl, trivial⟩, hF⟩ ?_
 clear hF; rintro μ σ w ⟨j, rfl, hj, hq, hs, hF⟩
 refine Cg.slots hs ?_
 clear hs; intro σ
 refine c_seq (c_seq (c_region (o_val (x_move rfl) (o_val (x_move rfl) (o_val (v := .int .i64 ((a.length : Nat))) (x_len_slice Tryz.underlying28 rfl) (o_val (v := .bool (decide (((j : Int) : Int) < ((a.length : Nat) : Int)))) (x_lss rfl rfl) (o_nil (e_seq ?_))))))))
 refine c_splitd (d := 14) (p := ((j : Int) : Int) < ((a.length : Nat) : Int)) rfl (fun hc1 => ?_) (fun hc1 => ?_)
 refine c_ift rfl (c_skip (e_seq (c_seq (c_block (c_seq ?_)))))
 refine c_drawF [] (.free 0 (.free 1 (.free 2 (.free 3 (.free 4 (.free 5 (.free 6 (.free 7 (.free 8 .nil))))))))) (by kernel_rfl) hF (by kernel_rfl) (by kernel_rfl) ?_
 clear hF; rintro w hF -
 refine ⟨fun wq => FR w0 [] [] wq, hF, ?_⟩
 refine f_free rfl (v := .slice (A) (a.length) (c)) (fun w hC => x_move rfl) (f_free rfl (v := .int .i64 ((j : Int))) (fun w hC => x_move rfl) ?_)
 obtain ⟨ad0, hA0, hk0, hx0⟩ := hX.int_elem (i := j) (by omega)
 refine f_free rfl (v := .pointer (some (ad0.add (j * 1)))) (fun w hC => x_indexAddrA (i := (j : Int)) sl_28 rfl hA0 rfl (by omega) (by omega)) (f_free rfl (v := .int .i64 (a[j])) (fun w hC => x_load Tryz.isAgg3 rfl (hC.cell0 hk0)) (f_free rfl (v := .slice (B) (b.length) (e)) (fun w hC => x_move rfl) (f_free rfl (v := .int .i64 ((j : Int))) (fun w hC => x_move rfl) ?_)))
 obtain ⟨ad1, hA1, hk1, hx1⟩ := hY.int_elem (i := j) (by omega)
 refine f_free rfl (v := .pointer (some (ad1.add (j * 1)))) (fun w hC => x_indexAddrA (i := (j : Int)) sl_28 rfl hA1 rfl (by omega) (by omega)) (f_free rfl (v := .int .i64 (b[j])) (fun w hC => x_load Tryz.isAgg3 rfl (hC.cell0 hk1)) (f_free rfl (v := .bool (decide ((a[j] : Int) ≠ (b[j] : Int)))) (fun w hC => x_neq rfl rfl) (d_nil (e_seq ?_))))
 refine c_splitd (d := 25) (p := (a[j] : Int) ≠ (b[j] : Int)) rfl (fun hc2 => ?_) (fun hc2 => ?_)
 refine c_ift rfl (c_seq (c_region (o_val (x_assign rfl) (o_nil (e_seq ?_)))))
 refine c_ret (e_ret (post_ret (res_1 (v := .bool false) rfl rfl) ?_))
 exact ⟨congrArg Value.bool (decide_eq_false fun q => by subst q; exact absurd rfl (by assumption)).symm, hF.same⟩
 refine c_iff rfl (c_skip (e_block (e_seq (c_region (o_val (x_move rfl) (o_val (v := .int .i64 (((j + 1 : Nat) : Int))) (x_add rfl rfl (wrap_to (by omega) (by omega) (by omega))) (o_val (x_assign rfl) (o_nil ?_))))))))
 refine e_inv ⟨_, ?_, j + 1, rfl, (by omega), (rows_step hq (Classical.not_not.1 (by assumption))), ⟨rfl, rfl, rfl, trivial⟩, hF⟩
 omega
 refine c_iff rfl ?_
 refine c_exit (e_exit rfl ?_)
 refine e_seq (c_seq (c_region (o_val (x_assign rfl) (o_nil (e_seq ?_)))))
 refine c_ret (e_ret (post_ret (res_1 (v := .bool true) rfl rfl) ?_))
 exact ⟨congrArg Value.bool (decide_eq_true (rows_eq hq hll (by omega))).symm, hF.same⟩
end Go.Scarf
namespace Go.Scarf
open Go.RowKit Go.Proofs
section
variable {P : Program} {w : World}
theorem x_sliceHi2 {ρ : Operand → Value} {dst : Option Nat} {ty : TypeId} {pos : String} {aft : Array Edge} {g : Option (Nat × Bool)} {t e sz : Nat} {x y : Operand} {A : Option Addr} {n c : Nat} {k : IntKind} (m : Nat) (ht : SliceOf P t e sz) (hx : ρ x = .slice A n c) (hy : ρ y = .int k (m : Int)) (hm : m ≤ c) :
    (execOp ρ ⟨dst, .slice t x none (some y) none, ty, pos, aft, g⟩).run P w = .ok (.value (.slice A m c)) w := by
  have he := elem_of ht.1
  have ht' : P.underlying t = some (.slice (P.elem t)) := by rw [he]; exact ht.1
  have h := run_slice_h (P := P) w t A n c ht' k m (by omega) (by omega)
  have hs : (sizeOf (P.elem t)).run P w = .ok sz w := by rw [he]; exact ht.2 w
  rw [hs] at h
  have e1 : sliced A 0 (m : Int).toNat c sz = .slice A m c := by
    unfold sliced
    simp only [Int.toNat_natCast, Nat.zero_mul, Nat.sub_zero]
    split
    · rfl
    · cases A <;> simp [add_zero_]
  simp only [execOp, Option.map_none, Option.map_some, hx, hy, run_sliceAt_slice w t _ _ _ _ ht', Sem.run_bind, h, Result.andThen, e1]
  rfl
end
def IVn (tp : List Nat) : List Value := tp.map fun i : Nat => Value.int .i64 (i : Int)
theorem SlB.pop {e n m c : Nat} {A : Option Addr} {xs ys : List Value} {v : Value} {sb : List (Nat × Obj)} (h : SlB e 1 A n c xs sb) (hx : xs = ys ++ [v]) (hn : n = m + 1) : SlB e 1 A m c ys sb := by
  subst hn
  obtain ⟨h1, h2⟩ := h
  rw [hx, List.length_append, List.length_singleton] at h1
  refine ⟨by omega, .inr ?_⟩
  rcases h2 with ⟨h3, -⟩ | ⟨g, cur, h3, h4, h5, h6, h7, h8⟩
  · omega
  · refine ⟨g, cur, h3, h4, by omega, h6, h7, ?_⟩
    have e1 : (cur.toList.take ((m + 1) * 1)).take (m * 1) = cur.toList.take (m * 1) := by rw [List.take_take]; congr 1; omega
    rw [← e1, h8, hx, List.take_left']
    omega
theorem seg_at {w0 w : World} {Ds : List Nat} {pre post sb : List (Nat × Obj)} {e n c : Nat} {A : Option Addr} {xs : List Value} (hS : SlB e 1 A n c xs sb) (hF : FR w0 Ds (pre ++ (sb ++ post)) w) (j : Nat) {u : Value} (hu : xs[j]? = some u) :
    ∃ ad, A = some ad ∧ w.cell? (ad.add (j * 1)) = some u := by
  have hA : ∃ ad, A = some ad := by
    rcases hS.2 with ⟨h1, -⟩ | ⟨g, cur, hA, -⟩
    · have h2 := hS.1
      have := (List.getElem?_eq_some_iff.1 hu).1
      omega
    · exact ⟨_, hA⟩
  obtain ⟨ad, hA⟩ := hA
  exact ⟨ad, hA, by rw [Nat.mul_one]; exact hS.cells hF ad hA j u hu⟩
theorem last_of {tp : List Nat} (h : 0 < tp.length) : ∃ l r, tp = l ++ [r] := by
  cases hr : tp.reverse with
  | nil =>
    have e : tp = [] := by simpa using hr
    subst e; simp at h
  | cons r l => exact ⟨l.reverse, r, by have := congrArg List.reverse hr; simpa using this⟩
theorem IVn_last (l : List Nat) (r : Nat) : (IVn (l ++ [r]))[l.length]? = some (.int .i64 (r : Int)) := by simp [IVn]
set_option maxHeartbeats 4000000 in
set_option maxRecDepth 10000 in
theorem parents_c (S : Nat → Prop) (w0 : World) (la : List Str) (fa : List Int) (Aa Ba : Option Addr) (ca ea : Nat) (hLa : Rep S w0 (strsD la) [.slice Aa la.length ca]) (hNa : Rep S w0 (.slice (fa.map intD)) [.slice Ba fa.length ea]) : Calls Tryz.prog 30 #[.agg #[.slice Aa la.length ca, .slice Ba fa.length ea]] w0 (Ret fun v w' => ∃ (A : Option Addr) (n c : Nat) (b : Bool), v = .tuple #[.slice A n c, .bool b] ∧ (b = true ↔ RightT la fa) ∧ Same [] w0 w') := by
 have hLla := hLa.slice_len
 have hNla := hNa.slice_len
 rw [List.length_map] at hLla hNla
 refine calls_start Tryz.func30 rfl Tryz.ntmps30 (Nat.le_of_ble_eq_true rfl) (args_1 _) ?_
 have hF := FR.start w0 []
 refine c_seq (c_region ?_)
 refine o_box (v := .agg #[.slice (Aa) (la.length) (ca), .slice (Ba) (fa.length) (ea)]) (cs := #[.slice (Aa) (la.length) (ca), .slice (Ba) (fa.length) (ea)]) hF rfl rfl ?_
 clear hF; rintro b1 w hb1 hF -
 refine o_val (x_assign rfl) (o_val (x_assign rfl) (o_nil (e_seq (c_seq (c_seq (c_region (o_val (v := .pointer (some ⟨b1, 0, none⟩)) (x_fieldAddrO fa_30_0 rfl) (o_val (v := .slice (Aa) (la.length) (ca)) (x_load Tryz.isAgg22 rfl (hF.cell 0 rfl rfl)) (o_val (v := .int .i64 ((la.length : Nat))) (x_len_slice Tryz.underlying22 rfl) (o_val (v := .pointer (some ⟨b1, 1, none⟩)) (x_fieldAddrO fa_30_1 rfl) (o_val (v := .slice (Ba) (fa.length) (ea)) (x_load Tryz.isAgg28 rfl (hF.cell 0 rfl rfl)) (o_val (v := .int .i64 ((fa.length : Nat))) (x_len_slice Tryz.underlying28 rfl) (o_val (v := .bool (decide (((la.length : Nat) : Int) ≠ ((fa.length : Nat) : Int)))) (x_neq rfl rfl) ?_)))))))))))))
 refine o_val (x_move rfl) ?_
 refine o_splitd (d := 16) (p := ((la.length : Nat) : Int) ≠ ((fa.length : Nat) : Int)) rfl (fun hg0 => ?_) (fun hg0 => ?_)
 refine o_off (o_off (o_off (o_off (o_val (x_pickt rfl rfl) (o_nil (e_seq (c_ift rfl (c_seq (c_region (o_val (x_assign rfl) (o_val (x_assign rfl) (o_nil (e_seq ?_)))))))))))))
 refine c_ret (e_ret (post_ret (res_2 (v := .slice (none) (0) (0)) (x := .bool false) rfl rfl rfl) ?_))
 refine ⟨_, _, _, false, rfl, ⟨fun h => (by cases h), fun h => ?_⟩, hF.same⟩
 exfalso
 have := h.1
 have := h.2.1
 omega
 refine o_val (v := .pointer (some ⟨b1, 0, none⟩)) (x_fieldAddrO fa_30_0 rfl) (o_val (v := .slice (Aa) (la.length) (ca)) (x_load Tryz.isAgg22 rfl (hF.cell 0 rfl rfl)) (o_val (v := .int .i64 ((la.length : Nat))) (x_len_slice Tryz.underlying22 rfl) (o_val (v := .bool (decide ((512 : Int) < ((la.length : Nat) : Int)))) (x_gtr rfl rfl) (o_val (x_pickf rfl rfl) (o_nil (e_seq ?_))))))
 refine c_splitd (d := 21) (p := (512 : Int) < ((la.length : Nat) : Int)) rfl (fun hc0 => ?_) (fun hc0 => ?_)
 refine c_ift rfl (c_seq (c_region (o_val (x_assign rfl) (o_val (x_assign rfl) (o_nil (e_seq ?_))))))
 refine c_ret (e_ret (post_ret (res_2 (v := .slice (none) (0) (0)) (x := .bool false) rfl rfl rfl) ?_))
 refine ⟨_, _, _, false, rfl, ⟨fun h => (by cases h), fun h => ?_⟩, hF.same⟩
 exfalso
 have := h.1
 have := h.2.1
 omega
 refine c_iff rfl (c_skip (e_seq (c_seq (c_region (o_val (v := .pointer (some ⟨b1, 1, none⟩)) (x_fieldAddrO fa_30_1 rfl) (o_val (v := .slice (Ba) (fa.length) (ea)) (x_load Tryz.isAgg28 rfl (hF.cell 0 rfl rfl)) (o_val (v := .int .i64 ((fa.length : Nat))) (x_len_slice Tryz.underlying28 rfl) ?_)))))))
 refine o_new (v := fun b => .slice (some ⟨b, 0, none⟩) (fa.length) (fa.length)) (o := .cells (intsA (fa.length) fun _ => 0) 3) hF (x_makeI el_28 (by kernel_rfl) rfl rfl (by omega)) ?_
 clear hF; rintro b2 w hb2 hF -
 refine o_val (x_assign rfl) (o_nil (e_seq (c_seq (c_region (o_val (x_assign rfl) (o_nil (e_seq (c_seq (c_seq ?_)))))))))
 have hlf5 : la.length = fa.length ∧ la.length ≤ 512 := by omega
 replace hF : FR w0 [] ([(b2, .cells (intsA (fa.length) (fun _ => 0)) 3), (b1, .cells #[.slice (Aa) (la.length) (ca), .slice (Ba) (fa.length) (ea)] 30)] ++ ([] ++ [])) w := hF
 refine c_region (o_val (v := .pointer (some ⟨b1, 1, none⟩)) (x_fieldAddrO fa_30_1 rfl) (o_val (v := .slice (Ba) (fa.length) (ea)) (x_load Tryz.isAgg28 rfl (hF.cell 1 rfl rfl)) (o_val (v := .int .i64 ((fa.length : Nat))) (x_len_slice Tryz.underlying28 rfl) (o_val (x_move rfl) (o_nil (e_seq (c_block ?_)))))))
 refine c_loop (fun μ σ w => ∃ (j : Nat), ∃ (tp : List Nat), ∃ (A : Option Addr), ∃ (c : Nat), ∃ (sb : List (Nat × Obj)), ∃ (f : Nat → Int), μ = fa.length - j ∧ (j ≤ fa.length) ∧ (lfOk fa j) ∧ (Rts fa j tp) ∧ (SlB 3 1 A tp.length c (IVn tp) sb) ∧ AllEq σ [(1, .pointer (some ⟨b1, 0, none⟩)), (4, .slice (some ⟨b2, 0, none⟩) (fa.length) (fa.length)), (5, .slice (A) (tp.length) (c)), (27, .slice (Ba) (fa.length) (ea)), (28, .int .i64 ((fa.length : Nat))), (29, .int .i64 ((j : Int)))] ∧ FR w0 [] ([(b2, .cells (intsA (fa.length) (f)) 3), (b1, .cells #[.slice (Aa) (la.length) (ca), .slice (Ba) (fa.length) (ea)] 30)] ++ (sb ++ [])) w) _ ⟨0, [], none, 0, [], (fun _ => 0), rfl, (Nat.zero_le _), (fun i _ h => by omega), (.nil), (SlB.nil _ _), ⟨rfl, rfl, rfl, rfl, rfl, rfl, trivial⟩, hF⟩ ?_
 clear hF; rintro μ σ w ⟨j, tp, A, c, sb, f, rfl, hj, hok, hrt, hS, hs, hF⟩
 refine Cg.slots hs ?_
 clear hs; intro σ
 refine c_seq (c_region (o_val (v := .bool (decide (((j : Int) : Int) < ((fa.length : Nat) : Int)))) (x_lss rfl rfl) (o_nil (e_seq (c_seq ?_)))))
 refine c_splitd (d := 30) (p := ((j : Int) : Int) < ((fa.length : Nat) : Int)) rfl (fun hc1 => ?_) (fun hc1 => ?_)
 refine c_ift rfl (c_skip (e_seq (c_seq (c_block (c_seq (c_region (o_val (x_move rfl) ?_)))))))
 obtain ⟨ad1, hA1, hk1, hx1⟩ := hNa.int_elem (i := j) (by omega)
 refine o_val (v := .pointer (some (ad1.add (j * 1)))) (x_indexAddrA (i := (j : Int)) sl_28 rfl hA1 rfl (by omega) (by omega)) (o_val (v := .int .i64 (fa[j])) (x_load Tryz.isAgg3 rfl (hF.cell0 hk1)) (o_val (x_assign rfl) (o_val (x_assign rfl) (o_nil (e_seq (c_seq (c_seq (c_region (o_val (x_move rfl) (o_val (v := .bool (decide ((fa[j] : Int) < (0 : Int)))) (x_lss rfl rfl) (o_val (x_move rfl) ?_)))))))))))
 refine o_splitd (d := 36) (p := (fa[j] : Int) < (0 : Int)) rfl (fun hg2 => ?_) (fun hg2 => ?_)
 refine o_off (o_off (o_off (o_val (x_pickt rfl rfl) (o_nil (e_seq (c_ift rfl (c_seq (c_region (o_val (x_assign rfl) (o_val (x_assign rfl) (o_nil (e_seq ?_))))))))))))
 refine c_ret (e_ret (post_ret (res_2 (v := .slice (none) (0) (0)) (x := .bool false) rfl rfl rfl) ?_))
 refine ⟨_, _, _, false, rfl, ⟨fun h => (by cases h), fun h => ?_⟩, hF.same⟩
 exfalso
 have := h.2.2 j (by omega) (by omega)
 omega
 refine o_val (x_move rfl) (o_val (x_move rfl) (o_val (v := .bool (decide (((j : Int) : Int) < (fa[j] : Int)))) (x_gtr rfl rfl) (o_val (x_pickf rfl rfl) (o_nil (e_seq ?_)))))
 refine c_splitd (d := 40) (p := ((j : Int) : Int) < (fa[j] : Int)) rfl (fun hc2 => ?_) (fun hc2 => ?_)
 refine c_ift rfl (c_seq (c_region (o_val (x_assign rfl) (o_val (x_assign rfl) (o_nil (e_seq ?_))))))
 refine c_ret (e_ret (post_ret (res_2 (v := .slice (none) (0) (0)) (x := .bool false) rfl rfl rfl) ?_))
 refine ⟨_, _, _, false, rfl, ⟨fun h => (by cases h), fun h => ?_⟩, hF.same⟩
 exfalso
 have := h.2.2 j (by omega) (by omega)
 omega
 refine c_iff rfl (c_skip (e_seq (c_seq (c_block ?_))))
 refine c_loop (fun μ σ w => ∃ (p : Nat), ∃ (tp : List Nat), ∃ (A : Option Addr), ∃ (c : Nat), ∃ (sb : List (Nat × Obj)), ∃ (f : Nat → Int), μ = tp.length ∧ (fa[j] ≤ (p : Int) ∧ p ≤ j) ∧ (∀ z (hz : z < j), p ≤ z → fa[j] ≤ fa[z]) ∧ (Rts fa p tp) ∧ (SlB 3 1 A tp.length c (IVn tp) sb) ∧ AllEq σ [(1, .pointer (some ⟨b1, 0, none⟩)), (4, .slice (some ⟨b2, 0, none⟩) (fa.length) (fa.length)), (5, .slice (A) (tp.length) (c)), (6, .int .i64 ((j : Int))), (7, .int .i64 (fa[j])), (27, .slice (Ba) (fa.length) (ea)), (28, .int .i64 ((fa.length : Nat))), (29, .int .i64 ((j : Int)))] ∧ FR w0 [] ([(b2, .cells (intsA (fa.length) (f)) 3), (b1, .cells #[.slice (Aa) (la.length) (ca), .slice (Ba) (fa.length) (ea)] 30)] ++ (sb ++ [])) w) _ ⟨j, tp, A, c, sb, f, rfl, (by omega), (fun z hz h => by omega), (hrt), (hS), ⟨rfl, rfl, rfl, rfl, rfl, rfl, rfl, rfl, trivial⟩, hF⟩ ?_
 clear hF; rintro μ σ w ⟨p, tp, A, c, sb, f, rfl, hp, hcl, hrt, hS, hs, hF⟩
 refine Cg.slots hs ?_
 clear hs; intro σ
 refine c_seq (c_seq (c_region (o_val (x_move rfl) (o_val (v := .int .i64 ((tp.length : Nat))) (x_len_slice Tryz.underlying28 rfl) (o_val (v := .bool (decide ((0 : Int) < ((tp.length : Nat) : Int)))) (x_gtr rfl rfl) (o_val (x_move rfl) ?_))))))
 refine o_splitd (d := 44) (p := (0 : Int) < ((tp.length : Nat) : Int)) rfl (fun hg3 => ?_) (fun hg3 => ?_)
 refine o_val (x_move rfl) (o_val (x_move rfl) (o_val (v := .int .i64 ((tp.length : Nat))) (x_len_slice Tryz.underlying28 rfl) ?_))
 obtain ⟨l, r, hlr⟩ := last_of (tp := tp) (by omega)
 have hlen : tp.length = l.length + 1 := by rw [hlr]; simp
 have hlb5 : l.length ≤ 512 := by have := Rts.len hrt; omega
 obtain ⟨hpr, hrl⟩ := Rts.last (hlr ▸ hrt)
 refine o_val (v := .int .i64 ((l.length : Nat))) (x_sub rfl rfl (wrap_to (by omega) (by omega) (by omega))) ?_
 obtain ⟨adp, hAp, hkp⟩ := seg_at (pre := [(b2, .cells (intsA (fa.length) (f)) 3), (b1, .cells #[.slice (Aa) (la.length) (ca), .slice (Ba) (fa.length) (ea)] 30)]) (post := []) hS hF l.length (u := .int .i64 (r : Int)) (by rw [hlr]; exact IVn_last l r)
 refine o_val (v := .pointer (some (adp.add (l.length * 1)))) (x_indexAddrA (i := ((l.length : Nat) : Int)) sl_28 rfl hAp rfl (by omega) (by omega)) (o_val (v := .int .i64 ((r : Nat))) (x_load Tryz.isAgg3 rfl hkp) (o_val (x_move rfl) (o_val (v := .bool (decide ((fa[j] : Int) ≤ ((r : Nat) : Int)))) (x_geq rfl rfl) (o_val (x_pickt rfl rfl) (o_nil (e_seq ?_))))))
 refine c_splitd (d := 53) (p := (fa[j] : Int) ≤ ((r : Nat) : Int)) rfl (fun hc3 => ?_) (fun hc3 => ?_)
 refine c_ift rfl (c_skip (e_seq (c_block (c_seq (c_region (o_val (x_move rfl) (o_val (x_move rfl) (o_val (v := .int .i64 ((tp.length : Nat))) (x_len_slice Tryz.underlying28 rfl) (o_val (v := .int .i64 ((l.length : Nat))) (x_sub rfl rfl (wrap_to (by omega) (by omega) (by omega))) ?_)))))))))
 obtain ⟨adq, hAq, hkq⟩ := seg_at (pre := [(b2, .cells (intsA (fa.length) (f)) 3), (b1, .cells #[.slice (Aa) (la.length) (ca), .slice (Ba) (fa.length) (ea)] 30)]) (post := []) hS hF l.length (u := .int .i64 (r : Int)) (by rw [hlr]; exact IVn_last l r)
 refine o_val (v := .pointer (some (adq.add (l.length * 1)))) (x_indexAddrA (i := ((l.length : Nat) : Int)) sl_28 rfl hAq rfl (by omega) (by omega)) (o_val (v := .int .i64 ((r : Nat))) (x_load Tryz.isAgg3 rfl hkq) (o_val (x_assign rfl) (o_nil (e_seq (c_seq (c_seq (c_region (o_val (v := .pointer (some ⟨b1, 1, none⟩)) (x_fieldAddrO fa_30_1 rfl) (o_val (v := .slice (Ba) (fa.length) (ea)) (x_load Tryz.isAgg28 rfl (hF.cell 1 rfl rfl)) (o_val (x_move rfl) ?_))))))))))
 obtain ⟨ad4, hA4, hk4, hx4⟩ := hNa.int_elem (i := r) (by omega)
 refine o_val (v := .pointer (some (ad4.add (r * 1)))) (x_indexAddrA (i := (r : Nat)) sl_28 rfl hA4 rfl (by omega) (by omega)) (o_val (v := .int .i64 (fa[r])) (x_load Tryz.isAgg3 rfl (hF.cell0 hk4)) (o_val (x_move rfl) (o_val (v := .bool (decide ((fa[r] : Int) < (fa[j] : Int)))) (x_lss rfl rfl) (o_nil (e_seq ?_)))))
 refine c_splitd (d := 66) (p := (fa[r] : Int) < (fa[j] : Int)) rfl (fun hc4 => ?_) (fun hc4 => ?_)
 refine c_ift rfl (c_seq (c_region (o_val (x_assign rfl) (o_val (x_assign rfl) (o_nil (e_seq ?_))))))
 refine c_ret (e_ret (post_ret (res_2 (v := .slice (none) (0) (0)) (x := .bool false) rfl rfl rfl) ?_))
 refine ⟨_, _, _, false, rfl, ⟨fun h => (by cases h), fun h => ?_⟩, hF.same⟩
 exfalso
 have := (h.2.2 j (by omega) (by omega)).2.2 r (by omega) (by omega)
 omega
 refine c_iff rfl (c_skip (e_seq ?_))
 refine c_drawF [] (.free 0 (.free 1 (.free 2 (.free 3 (.free 4 (.free 5 (.free 6 (.free 7 (.free 8 (.act 9 (.free 10 .nil))))))))))) (by kernel_rfl) hF (by kernel_rfl) (by kernel_rfl) ?_
 clear hF; rintro w hF -
 refine ⟨fun wq => FR w0 [] [(b1, .cells #[.slice (Aa) (la.length) (ca), .slice (Ba) (fa.length) (ea)] 30)] wq, hF.sub (.cons _ (.cons_cons _ (List.nil_sublist _))), ?_⟩
 refine f_free rfl (v := .slice (some ⟨b2, 0, none⟩) (fa.length) (fa.length)) (fun w hC => x_move rfl) (f_free rfl (v := .int .i64 ((r : Nat))) (fun w hC => x_move rfl) (f_free rfl (v := .int .i64 ((j : Int))) (fun w hC => x_move rfl) (f_free rfl (v := .slice (A) (tp.length) (c)) (fun w hC => x_move rfl) (f_free rfl (v := .slice (A) (tp.length) (c)) (fun w hC => x_move rfl) (f_free rfl (v := .int .i64 ((tp.length : Nat))) (fun w hC => x_len_slice Tryz.underlying28 rfl) (f_free rfl (v := .int .i64 ((l.length : Nat))) (fun w hC => x_sub rfl rfl (wrap_to (by omega) (by omega) (by omega))) ?_))))))
 refine f_free rfl (v := .slice (A) (l.length) (c)) (fun w hC => x_sliceHi2 l.length sl_28 rfl rfl (by have := hS.cap; omega)) ?_
 refine f_free rfl (v := .pointer (some ⟨b2, r, none⟩)) (fun w hC => x_indexAddrO (i := (r : Nat)) (r) sl_28 rfl rfl (by omega) (by omega) (by omega)) ?_
 refine f_store rfl 0 (l := [.int .i64 ((j : Int))]) (cs' := intsA (fa.length) (setF (f) (r) ((j : Int)))) hF Tryz.sizeOf3 rfl (v := .int .i64 ((j : Int))) rfl rfl (by simp [one]) rfl (by rw [intsA_size]; simp only [List.length_singleton]; exact Nat.succ_le_of_lt (by omega)) (intsA_put _) ?_
 clear hF; rintro w hF -
 replace hF : FR w0 [] ([(b2, .cells (intsA (fa.length) (setF (f) (r) ((j : Int)))) 3), (b1, .cells #[.slice (Aa) (la.length) (ca), .slice (Ba) (fa.length) (ea)] 30)] ++ (sb ++ [])) w := hF
 refine ⟨hF.sub (.cons _ (.cons_cons _ (List.nil_sublist _))), ?_⟩
 refine f_free rfl (v := .slice (A) (l.length) (c)) (fun w hC => x_assign rfl) (d_nil (e_block ?_))
 have hat := hok.at (j := r) (by omega) (by omega)
 have hlr2 : lfN fa r ≤ r := Nat.min_le_right _ _
 have hp2 : fa[j] ≤ ((lfN fa r : Nat) : Int) ∧ lfN fa r ≤ j := by constructor <;> omega
 refine e_inv ⟨_, ?_, lfN fa r, l, A, c, sb, (setF (f) (r) ((j : Int))), rfl, (hp2), (fun z hz hle => if hzr : z ≤ r then hok.popped hj (by omega) (by omega) hle hzr else hcl z hz (by omega)), (hrl), (SlB.pop hS (by rw [hlr]; simp [IVn]; rfl) hlen), ⟨rfl, rfl, rfl, rfl, rfl, rfl, rfl, rfl, trivial⟩, hF⟩
 omega
 refine c_iff rfl ?_
 refine c_exit (e_exit rfl ?_)
 refine e_seq (c_seq ?_)
 have hpe : (p : Int) = fa[j] := by first | (have e0 : tp = [] := List.eq_nil_of_length_eq_zero (by omega); have := Rts.none (e0 ▸ hrt); omega) | omega
 refine c_region (o_val (x_move rfl) (o_val (x_move rfl) (o_val (v := .pointer (some ⟨b2, j, none⟩)) (x_indexAddrO (i := (j : Int)) (j) sl_28 rfl rfl (by omega) (by omega) (by omega)) ?_)))
 refine o_store 0 (l := [.int .i64 ((-1))]) (cs' := intsA (fa.length) (setF (f) (j) ((-1)))) hF Tryz.sizeOf3 rfl (v := .int .i64 ((-1))) rfl rfl (by simp [one]) rfl (by rw [intsA_size]; simp only [List.length_singleton]; exact Nat.succ_le_of_lt (by omega)) (intsA_put _) ?_
 clear hF; rintro w hF -
 replace hF : FR w0 [] ([(b2, .cells (intsA (fa.length) (setF (f) (j) ((-1)))) 3), (b1, .cells #[.slice (Aa) (la.length) (ca), .slice (Ba) (fa.length) (ea)] 30)] ++ (sb ++ [])) w := hF
 refine o_nil (e_seq (c_region (o_val (x_move rfl) (o_val (x_move rfl) ?_))))
 refine o_new (v := fun b => .slice (some ⟨b, 0, none⟩) 1 1) hF (x_buildSlice (cs := #[.int .i64 ((j : Int))]) Tryz.underlying28 Tryz.sizeOf3 Tryz.zeroValue3 (by decide) (by decide) (by kernel_rfl)) ?_
 clear hF; rintro b3 w hb3 hF -
 refine o_append [(b3, .cells #[.int .i64 ((j : Int))] 3), (b2, .cells (intsA (fa.length) (setF (f) (j) ((-1)))) 3), (b1, .cells #[.slice (Aa) (la.length) (ca), .slice (Ba) (fa.length) (ea)] 30)] [] (news := [.int .i64 ((j : Int))]) (len' := (tp ++ [j]).length) (ys := IVn (tp ++ [j])) el_28 hF hS rfl rfl (rfl) (fun _ => ⟨_, rfl, cells_opt (hF.cellsAll 0 rfl)⟩) (by simp [Value.oneCell']) (by have := Rts.len hrt; simp only [maxLen]; omega) (by simp) (by simp [IVn]) (by have := Rts.len hrt; omega) ?_
 clear hF; intro A5 c5 o_5 w hS5_o hF hE hnew
 clear hE hnew
 refine o_val (x_assign rfl) (o_nil (e_block (e_seq (c_region (o_val (v := .int .i64 (((j + 1 : Nat) : Int))) (x_add rfl rfl (wrap_to (by omega) (by omega) (by omega))) (o_val (x_move rfl) (o_nil ?_)))))))
 have hok2 : lfOk fa (j + 1) := hok.snoc (by omega) (by omega) (by omega) (fun z hz hle => hcl z hz (by omega))
 have hlf : lfN fa j = p := by have := hok2.at (j := j) (by omega) (by omega); omega
 have hrt2 : Rts fa (j + 1) (tp ++ [j]) := .snoc (by rw [hlf]; exact hrt)
 refine e_inv ⟨_, ?_, j + 1, tp ++ [j], A5, c5, o_5, (setF (f) (j) ((-1))), rfl, (by omega), (hok2), (hrt2), (hS5_o), ⟨rfl, rfl, rfl, rfl, rfl, rfl, trivial⟩, hF.drop 1⟩
 omega
 refine o_off (o_off (o_off (o_off (o_off (o_off (o_off (o_off (o_val (x_pickf rfl rfl) (o_nil (e_seq (c_iff rfl ?_)))))))))))
 refine c_exit (e_exit rfl ?_)
 refine e_seq (c_seq ?_)
 have hpe : (p : Int) = fa[j] := by first | (have e0 : tp = [] := List.eq_nil_of_length_eq_zero (by omega); have := Rts.none (e0 ▸ hrt); omega) | omega
 refine c_region (o_val (x_move rfl) (o_val (x_move rfl) (o_val (v := .pointer (some ⟨b2, j, none⟩)) (x_indexAddrO (i := (j : Int)) (j) sl_28 rfl rfl (by omega) (by omega) (by omega)) ?_)))
 refine o_store 0 (l := [.int .i64 ((-1))]) (cs' := intsA (fa.length) (setF (f) (j) ((-1)))) hF Tryz.sizeOf3 rfl (v := .int .i64 ((-1))) rfl rfl (by simp [one]) rfl (by rw [intsA_size]; simp only [List.length_singleton]; exact Nat.succ_le_of_lt (by omega)) (intsA_put _) ?_
 clear hF; rintro w hF -
 replace hF : FR w0 [] ([(b2, .cells (intsA (fa.length) (setF (f) (j) ((-1)))) 3), (b1, .cells #[.slice (Aa) (la.length) (ca), .slice (Ba) (fa.length) (ea)] 30)] ++ (sb ++ [])) w := hF
 refine o_nil (e_seq (c_region (o_val (x_move rfl) (o_val (x_move rfl) ?_))))
 refine o_new (v := fun b => .slice (some ⟨b, 0, none⟩) 1 1) hF (x_buildSlice (cs := #[.int .i64 ((j : Int))]) Tryz.underlying28 Tryz.sizeOf3 Tryz.zeroValue3 (by decide) (by decide) (by kernel_rfl)) ?_
 clear hF; rintro b4 w hb4 hF -
 refine o_append [(b4, .cells #[.int .i64 ((j : Int))] 3), (b2, .cells (intsA (fa.length) (setF (f) (j) ((-1)))) 3), (b1, .cells #[.slice (Aa) (la.length) (ca), .slice (Ba) (fa.length) (ea)] 30)] [] (news := [.int .i64 ((j : Int))]) (len' := (tp ++ [j]).length) (ys := IVn (tp ++ [j])) el_28 hF hS rfl rfl (rfl) (fun _ => ⟨_, rfl, cells_opt (hF.cellsAll 0 rfl)⟩) (by simp [Value.oneCell']) (by have := Rts.len hrt; simp only [maxLen]; omega) (by simp) (by simp [IVn]) (by have := Rts.len hrt; omega) ?_
 clear hF; intro A6 c6 o_6 w hS6_o hF hE hnew
 clear hE hnew
 refine o_val (x_assign rfl) (o_nil (e_block (e_seq (c_region (o_val (v := .int .i64 (((j + 1 : Nat) : Int))) (x_add rfl rfl (wrap_to (by omega) (by omega) (by omega))) (o_val (x_move rfl) (o_nil ?_)))))))
 have hok2 : lfOk fa (j + 1) := hok.snoc (by omega) (by omega) (by omega) (fun z hz hle => hcl z hz (by omega))
 have hlf : lfN fa j = p := by have := hok2.at (j := j) (by omega) (by omega); omega
 have hrt2 : Rts fa (j + 1) (tp ++ [j]) := .snoc (by rw [hlf]; exact hrt)
 refine e_inv ⟨_, ?_, j + 1, tp ++ [j], A6, c6, o_6, (setF (f) (j) ((-1))), rfl, (by omega), (hok2), (hrt2), (hS6_o), ⟨rfl, rfl, rfl, rfl, rfl, rfl, trivial⟩, hF.drop 1⟩
 omega
 refine c_iff rfl ?_
 refine c_exit (e_exit rfl ?_)
 refine e_seq (c_seq (c_region (o_val (x_move rfl) (o_val (x_assign rfl) (o_val (x_assign rfl) (o_nil (e_seq ?_)))))))
 refine c_ret (e_ret (post_ret (res_2 (v := .slice (some ⟨b2, 0, none⟩) (fa.length) (fa.length)) (x := .bool true) rfl rfl rfl) ?_))
 obtain rfl : j = fa.length := by omega
 exact ⟨_, _, _, true, rfl, ⟨fun _ => ⟨hlf5.1, hlf5.2, hok⟩, fun _ => rfl⟩, hF.same⟩
set_option maxHeartbeats 1000000 in
set_option maxRecDepth 10000 in
theorem rightT_c (S : Nat → Prop) (w0 : World) (la : List Str) (fa : List Int) (Aa Ba : Option Addr) (ca ea : Nat) (hLa : Rep S w0 (strsD la) [.slice Aa la.length ca]) (hNa : Rep S w0 (.slice (fa.map intD)) [.slice Ba fa.length ea]) : Calls Tryz.prog 14 #[.agg #[.slice Aa la.length ca, .slice Ba fa.length ea]] w0 (Ret fun v w' => ∃ b : Bool, v = .bool b ∧ (b = true ↔ RightT la fa) ∧ Same [] w0 w') := by
 refine calls_start Tryz.func14 rfl Tryz.ntmps14 (Nat.le_of_ble_eq_true rfl) (args_1 _) ?_
 have hF := FR.start w0 []
 refine c_seq (c_region ?_)
 refine o_box (v := .agg #[.slice (Aa) (la.length) (ca), .slice (Ba) (fa.length) (ea)]) (cs := #[.slice (Aa) (la.length) (ca), .slice (Ba) (fa.length) (ea)]) hF rfl rfl ?_
 clear hF; rintro b1 w hb1 hF -
 refine o_val (x_assign rfl) (o_nil (e_seq (c_seq (c_region (o_val (v := .agg #[.slice (Aa) (la.length) (ca), .slice (Ba) (fa.length) (ea)]) (x_loadS (l := [.slice (Aa) (la.length) (ca), .slice (Ba) (fa.length) (ea)]) Tryz.isAgg30 Tryz.sizeOf30 rfl rfl (hF.cellsAll 0 rfl)) ?_)))))
 refine o_call (parents_c _ _ la fa Aa Ba ca ea (hF.rep hLa) (hF.rep hNa)) (x_call1 en_30 rfl rfl) ?_
 rintro _ w ⟨A, n, c, b, rfl, hb, hE⟩
 replace hF := hF.ext hE
 clear hE
 refine o_val (x_move rfl) (o_val (x_extract rfl rfl) (o_val (x_extract rfl rfl) (o_val (x_assign rfl) (o_val (x_assign rfl) (o_nil (e_seq (c_seq (c_region (o_val (x_move rfl) (o_val (x_assign rfl) (o_nil (e_seq ?_))))))))))))
 refine c_ret (e_ret (post_ret (res_1 (v := .bool (b)) rfl rfl) ?_))
 exact ⟨_, rfl, hb, hF.same⟩
end Go.Scarf
namespace Go.Scarf
open Go.RowKit Go.Proofs
def gi (m p q : Nat) : Nat := p * (m + 1) + q
theorem gi_inj {m p q p' q' : Nat} (hq : q ≤ m) (hq' : q' ≤ m) (h : gi m p q = gi m p' q') : p = p' ∧ q = q' := by
  unfold gi at h
  have e : p = p' := by
    have h1 : (p * (m + 1) + q) / (m + 1) = p := by rw [Nat.mul_comm, Nat.mul_add_div (by omega), Nat.div_eq_of_lt (by omega)]; omega
    have h2 : (p' * (m + 1) + q') / (m + 1) = p' := by rw [Nat.mul_comm, Nat.mul_add_div (by omega), Nat.div_eq_of_lt (by omega)]; omega
    rw [← h1, ← h2, h]
  subst e
  exact ⟨rfl, by omega⟩
theorem gi_lt {m n p q : Nat} (hp : p ≤ n) (hq : q ≤ m) : gi m p q < (n + 1) * (m + 1) := by
  unfold gi
  have : p * (m + 1) ≤ n * (m + 1) := Nat.mul_le_mul_right _ hp
  rw [Nat.add_mul, Nat.one_mul]
  omega
theorem grid_max {n m : Nat} (hn : n ≤ 512) (hm : m ≤ 512) : (n + 1) * (m + 1) ≤ 263169 := Nat.le_trans (Nat.mul_le_mul (Nat.succ_le_succ hn) (Nat.succ_le_succ hm)) (by decide)
theorem FR.adopt {w0 w : World} {Ds : List Nat} {bs_ : List (Nat × Obj)} {b : Nat} {o : Obj} (hF : FR w0 Ds bs_ w) (h : w.heap[b]? = some o) (hb : w0.heap.size ≤ b) (hn : ∀ q ∈ bs_, q.1 ≠ b) : FR w0 Ds ((b, o) :: bs_) w :=
  ⟨hF.same, fun q hq => by
    rcases List.mem_cons.1 hq with rfl | hq
    · exact ⟨h, .inl hb⟩
    · exact hF.own q hq, List.pairwise_cons.2 ⟨fun q hq => hn q hq, hF.desc⟩⟩
set_option maxHeartbeats 1000000 in
set_option maxRecDepth 10000 in
theorem newGrid_c (w0 : World) (n m : Nat) (hn : n ≤ 512) (hm : m ≤ 512) : Calls Tryz.prog 56 #[.int .i64 ((n : Nat) : Int), .int .i64 ((m : Nat) : Int)] w0 (Ret fun v w' => ∃ gb cb : Nat, v = .pointer (some ⟨gb, 0, none⟩) ∧ w'.heap[gb]? = some (.cells #[.int .i64 ((m + 1 : Nat) : Int), .slice (some ⟨cb, 0, none⟩) ((n + 1) * (m + 1)) ((n + 1) * (m + 1))] 84) ∧ w'.heap[cb]? = some (.cells (intsA ((n + 1) * (m + 1)) fun _ => 0) 3) ∧ w0.heap.size ≤ gb ∧ w0.heap.size ≤ cb ∧ gb ≠ cb ∧ Same [] w0 w') := by
 have hN := grid_max hn hm
 refine calls_start Tryz.func56 rfl Tryz.ntmps56 (Nat.le_of_ble_eq_true rfl) (args_2 _ _) ?_
 have hF := FR.start w0 []
 refine c_seq (c_region (o_val (x_assign rfl) (o_nil (e_seq (c_seq (c_region (o_val (x_move rfl) (o_val (v := .int .i64 (((m + 1 : Nat) : Int))) (x_add rfl rfl (wrap_to (by omega) (by omega) (by omega))) (o_val (x_move rfl) (o_val (v := .int .i64 (((n + 1 : Nat) : Int))) (x_add rfl rfl (wrap_to (by omega) (by omega) (by omega))) (o_val (x_move rfl) (o_val (v := .int .i64 (((m + 1 : Nat) : Int))) (x_add rfl rfl (wrap_to (by omega) (by omega) (by omega))) ?_))))))))))))
 refine o_val (v := .int .i64 ((((n + 1) * (m + 1)) : Nat))) (x_mul rfl rfl (wrap_to (by rw [Int.natCast_mul]) (by omega) (by omega))) ?_
 refine o_new (v := fun b => .slice (some ⟨b, 0, none⟩) (((n + 1) * (m + 1))) (((n + 1) * (m + 1)))) (o := .cells (intsA (((n + 1) * (m + 1))) fun _ => 0) 3) hF (x_makeI el_28 (by kernel_rfl) rfl rfl (by omega)) ?_
 clear hF; rintro b1 w hb1 hF -
 refine o_val (w' := w) (v := .agg #[.int .i64 (((m + 1 : Nat) : Int)), .slice (some ⟨b1, 0, none⟩) (((n + 1) * (m + 1))) (((n + 1) * (m + 1)))]) (by kernel_rfl) ?_
 refine o_box (v := .agg #[.int .i64 (((m + 1 : Nat) : Int)), .slice (some ⟨b1, 0, none⟩) (((n + 1) * (m + 1))) (((n + 1) * (m + 1)))]) (cs := #[.int .i64 (((m + 1 : Nat) : Int)), .slice (some ⟨b1, 0, none⟩) (((n + 1) * (m + 1))) (((n + 1) * (m + 1)))]) hF rfl rfl ?_
 clear hF; rintro b2 w hb2 hF -
 refine o_val (x_assign rfl) (o_nil (e_seq ?_))
 refine c_ret (e_ret (post_ret (res_1 (v := .pointer (some ⟨b2, 0, none⟩)) rfl rfl) ?_))
 have h0 := hF.ge (i := 0) rfl
 have h1 := hF.ge (i := 1) rfl
 exact ⟨_, _, rfl, hF.heap (i := 0) rfl, hF.heap (i := 1) rfl, h0, h1, (by have := (List.pairwise_cons.1 hF.desc).1 _ (List.mem_cons_self ..); exact fun e => this e.symm), hF.same⟩
set_option maxHeartbeats 1000000 in
set_option maxRecDepth 10000 in
theorem at_k (w0 : World) (gb cb N m p q k : Nat) (i j : Int) (hi : i + 1 = (p : Int)) (hj : j + 1 = (q : Int)) (hg : w0.heap[gb]? = some (.cells #[.int .i64 ((m + 1 : Nat) : Int), .slice (some ⟨cb, 0, none⟩) N N] 84)) (hk : p * (m + 1) = k) (hN : k + q < N) (hm : m ≤ 512) (hp : p ≤ 1000) (hNm : N ≤ 263169) : Calls Tryz.prog 33 #[.pointer (some ⟨gb, 0, none⟩), .int .i64 i, .int .i64 j] w0 (Ret fun v w' => v = .pointer (some ⟨cb, gi m p q, none⟩) ∧ Same [] w0 w') := by
 refine calls_start Tryz.func33 rfl Tryz.ntmps33 (Nat.le_of_ble_eq_true rfl) (args_3 _ _ _) ?_
 have hF := FR.start w0 []
 refine c_seq (c_region (o_val (x_assign rfl) (o_nil (e_seq (c_seq ?_)))))
 refine c_drawF [] (.free 0 (.free 1 (.free 2 (.free 3 (.free 4 (.free 5 (.free 6 (.free 7 (.free 8 (.free 9 (.free 10 (.free 11 (.free 12 (.free 13 (.free 14 (.free 15 .nil)))))))))))))))) (by kernel_rfl) hF (by kernel_rfl) (by kernel_rfl) ?_
 clear hF; rintro w hF -
 refine ⟨fun wq => FR w0 [] [] wq, hF, ?_⟩
 refine f_free rfl (v := .pointer (some ⟨gb, 0, none⟩)) (fun w hC => x_move rfl) (f_free rfl (v := .pointer (some ⟨gb, 0, none⟩)) (fun w hC => x_nilCheck rfl) (f_free rfl (v := .pointer (some ⟨gb, 1, none⟩)) (fun w hC => x_fieldAddrO fa_84_1 rfl) (f_free rfl (v := .slice (some ⟨cb, 0, none⟩) (N) (N)) (fun w hC => x_load Tryz.isAgg28 rfl (hC.cell0 (cell_of_heap hg 1))) (f_free rfl (v := .int .i64 (i)) (fun w hC => x_move rfl) (f_free rfl (v := .int .i64 ((p : Nat))) (fun w hC => x_add rfl rfl (wrap_to (by omega) (by omega) (by omega))) (f_free rfl (v := .pointer (some ⟨gb, 0, none⟩)) (fun w hC => x_move rfl) (f_free rfl (v := .pointer (some ⟨gb, 0, none⟩)) (fun w hC => x_nilCheck rfl) (f_free rfl (v := .pointer (some ⟨gb, 0, none⟩)) (fun w hC => x_fieldAddrO fa_84_0 rfl) (f_free rfl (v := .int .i64 (((m + 1 : Nat) : Int))) (fun w hC => x_load Tryz.isAgg3 rfl (hC.cell0 (cell_of_heap hg 0))) ?_)))))))))
 refine f_free rfl (v := .int .i64 ((k : Nat))) (fun w hC => x_mul rfl rfl (wrap_to (by rw [← hk, Int.natCast_mul]) (by omega) (by omega))) ?_
 refine f_free rfl (v := .int .i64 (j)) (fun w hC => x_move rfl) (f_free rfl (v := .int .i64 (((k : Nat) : Int) + j)) (fun w hC => x_add rfl rfl (wrap_id (by omega) (by omega))) (f_free rfl (v := .int .i64 (((k + q : Nat) : Int))) (fun w hC => x_add rfl rfl (wrap_to (by omega) (by omega) (by omega))) (f_free rfl (v := .pointer (some ⟨cb, k + q, none⟩)) (fun w hC => x_indexAddrO (i := ((k + q : Nat) : Int)) (k + q) sl_28 rfl rfl (by omega) (by omega) (by omega)) (f_free rfl (v := .pointer (some ⟨cb, k + q, none⟩)) (fun w hC => x_assign rfl) (d_nil (e_seq ?_))))))
 refine c_ret (e_ret (post_ret (res_1 (v := .pointer (some ⟨cb, k + q, none⟩)) rfl rfl) ?_))
 exact ⟨by rw [gi, hk], hF.same⟩
theorem gat_c (w0 : World) (gb cb n m p q : Nat) (i j : Int) (hi : i + 1 = (p : Int)) (hj : j + 1 = (q : Int)) (hg : w0.heap[gb]? = some (.cells #[.int .i64 ((m + 1 : Nat) : Int), .slice (some ⟨cb, 0, none⟩) ((n + 1) * (m + 1)) ((n + 1) * (m + 1))] 84)) (hp : p ≤ n) (hq : q ≤ m) (hn : n ≤ 512) (hm : m ≤ 512) : Calls Tryz.prog 33 #[.pointer (some ⟨gb, 0, none⟩), .int .i64 i, .int .i64 j] w0 (Ret fun v w' => v = .pointer (some ⟨cb, gi m p q, none⟩) ∧ Same [] w0 w') :=
  at_k w0 gb cb _ m p q _ i j hi hj hg rfl (gi_lt hp hq) hm (by omega) (grid_max hn hm)
def Sk (N0 n : Nat) (q : Nat → Nat) (b : Nat) : Prop := b < N0 ∧ ∀ i, i < n → q i ≠ b
structure Rk (w : World) (N0 rb pb : Nat) (q : Nat → Nat) (la : List Str) (fa : List Int) (lb : List Str) (fb : List Int) (Aa Ba Ab Bb : Option Addr) (k1 k2 k3 k4 : Nat) (P : Nat → Nat → Int) : Prop where
  cell : w.heap[rb]? = some (.cells #[.slice Aa la.length k1, .slice Ba fa.length k2, .slice Ab lb.length k3, .slice Bb fb.length k4, .slice (some ⟨pb, 0, none⟩) la.length la.length] 69)
  La : Rep (Sk N0 la.length q) w (strsD la) [.slice Aa la.length k1]
  Na : Rep (Sk N0 la.length q) w (.slice (fa.map intD)) [.slice Ba fa.length k2]
  Lb : Rep (Sk N0 la.length q) w (strsD lb) [.slice Ab lb.length k3]
  Nb : Rep (Sk N0 la.length q) w (.slice (fb.map intD)) [.slice Bb fb.length k4]
  grid : Grid2 w pb la.length lb.length 28 3 q P
  lt : rb < N0 ∧ pb < N0 ∧ ∀ i, i < la.length → q i < N0
  ne : ∀ i, i < la.length → q i ≠ rb
section
variable {w w' : World} {N0 rb pb : Nat} {q : Nat → Nat} {la lb : List Str} {fa fb : List Int} {Aa Ba Ab Bb : Option Addr} {k1 k2 k3 k4 : Nat} {P : Nat → Nat → Int} {E : List Nat}
theorem Rk.step (h : Rk w N0 rb pb q la fa lb fb Aa Ba Ab Bb k1 k2 k3 k4 P) (hs : Same E w w') (he : ∀ b ∈ E, N0 ≤ b) : Rk w' N0 rb pb q la fa lb fb Aa Ba Ab Bb k1 k2 k3 k4 P := by
  have ns : ∀ b ∈ E, ¬ Sk N0 la.length q b := fun b hb h2 => by have := he b hb; have := h2.1; omega
  have nl : ∀ x, x < N0 → x ∉ E := fun x hx hm => by have := he x hm; omega
  exact ⟨(hs.block _ (lt_of_some h.cell) (nl _ h.lt.1)).trans h.cell, h.La.same hs ns, h.Na.same hs ns, h.Lb.same hs ns, h.Nb.same hs ns, h.grid.keep hs (nl _ h.lt.2.1) (fun i hi => nl _ (h.lt.2.2 i hi)), h.lt, h.ne⟩
theorem Rk.ext (h : Rk w N0 rb pb q la fa lb fb Aa Ba Ab Bb k1 k2 k3 k4 P) (hs : Same [] w w') : Rk w' N0 rb pb q la fa lb fb Aa Ba Ab Bb k1 k2 k3 k4 P := h.step hs (by simp)
theorem Rk.put (h : Rk w N0 rb pb q la fa lb fb Aa Ba Ab Bb k1 k2 k3 k4 P) {i j : Nat} {v : Int} (hi : i < la.length) (hs : Same [q i] w w') (hn : w'.heap[q i]? = some (.cells (intsA lb.length (setF (P i) j v)) 3)) : Rk w' N0 rb pb q la fa lb fb Aa Ba Ab Bb k1 k2 k3 k4 (set2 P i j v) := by
  have ns : ∀ b ∈ [q i], ¬ Sk N0 la.length q b := fun b hb h2 => h2.2 i hi (List.mem_singleton.1 hb).symm
  exact ⟨(hs.block _ (lt_of_some h.cell) (by simpa using fun e => h.ne i hi e.symm)).trans h.cell, h.La.same hs ns, h.Na.same hs ns, h.Lb.same hs ns, h.Nb.same hs ns, h.grid.put hi hs hn, h.lt, h.ne⟩
theorem Rk.c0 (h : Rk w N0 rb pb q la fa lb fb Aa Ba Ab Bb k1 k2 k3 k4 P) : w.cell? ⟨rb, 0, none⟩ = some (.slice Aa la.length k1) := cell_of_heap h.cell 0
theorem Rk.c1 (h : Rk w N0 rb pb q la fa lb fb Aa Ba Ab Bb k1 k2 k3 k4 P) : w.cell? ⟨rb, 1, none⟩ = some (.slice Ba fa.length k2) := cell_of_heap h.cell 1
theorem Rk.c2 (h : Rk w N0 rb pb q la fa lb fb Aa Ba Ab Bb k1 k2 k3 k4 P) : w.cell? ⟨rb, 2, none⟩ = some (.slice Ab lb.length k3) := cell_of_heap h.cell 2
theorem Rk.c3 (h : Rk w N0 rb pb q la fa lb fb Aa Ba Ab Bb k1 k2 k3 k4 P) : w.cell? ⟨rb, 3, none⟩ = some (.slice Bb fb.length k4) := cell_of_heap h.cell 3
theorem Rk.c4 (h : Rk w N0 rb pb q la fa lb fb Aa Ba Ab Bb k1 k2 k3 k4 P) : w.cell? ⟨rb, 4, none⟩ = some (.slice (some ⟨pb, 0, none⟩) la.length la.length) := cell_of_heap h.cell 4
theorem int_at {S : Nat → Prop} {fs : List Int} {B : Option Addr} {n e : Nat} {ad : Addr} (h : Rep S w (.slice (fs.map intD)) [.slice B n e]) (hA : B = some ad) {i : Nat} (hi : i < fs.length) : w.cell? (ad.add (i * 1)) = some (.int .i64 fs[i]) := by
  obtain ⟨ad', hA', hc, -⟩ := h.int_elem hi
  rw [hA] at hA'
  obtain rfl := Option.some.inj hA'
  exact hc
theorem str_at {S : Nat → Prop} {ls : List Str} {B : Option Addr} {n e : Nat} {ad : Addr} (h : Rep S w (strsD ls) [.slice B n e]) (hA : B = some ad) {i : Nat} (hi : i < ls.length) : w.cell? (ad.add (i * 1)) = some (.string (bs ls[i])) := by
  obtain ⟨ad', hA', hc, -⟩ := h.str_elem hi
  rw [hA] at hA'
  obtain rfl := Option.some.inj hA'
  exact hc
theorem int_ad {S : Nat → Prop} {fs : List Int} {B : Option Addr} {n e : Nat} (h : Rep S w (.slice (fs.map intD)) [.slice B n e]) (hi : 0 < fs.length) : ∃ ad, B = some ad := by
  obtain ⟨ad, hA, -⟩ := h.int_elem hi
  exact ⟨ad, hA⟩
end
set_option maxHeartbeats 1000000 in
set_option maxRecDepth 10000 in
theorem turn_c (w0 : World) (N0 rb pb : Nat) (q : Nat → Nat) (la : List Str) (fa : List Int) (lb : List Str) (fb : List Int) (Aa Ba Ab Bb : Option Addr) (k1 k2 k3 k4 : Nat) (P : Nat → Nat → Int) (h : Rk w0 N0 rb pb q la fa lb fb Aa Ba Ab Bb k1 k2 k3 k4 P) (i j : Nat) (hi : i < la.length) (hj : j < lb.length) (hn : la.length ≤ 512) (hm : lb.length ≤ 512) : Calls Tryz.prog 57 #[.pointer (some ⟨rb, 0, none⟩), .int .i64 ((i : Nat) : Int), .int .i64 ((j : Nat) : Int)] w0 (Ret fun v w' => v = .int .i64 ((turn (nodesT la fa) (nodesT lb fb) i j : Nat) : Int) ∧ Same [] w0 w') := by
 have turnT : turn (nodesT la fa) (nodesT lb fb) i j = if la[i] = lb[j] then 0 else 1 := by simp [turn, nodesT, List.getD, hi, hj]
 refine calls_start Tryz.func57 rfl Tryz.ntmps57 (Nat.le_of_ble_eq_true rfl) (args_3 _ _ _) ?_
 have hF := FR.start w0 []
 refine c_seq (c_region (o_val (x_assign rfl) (o_nil (e_seq (c_seq (c_seq ?_))))))
 refine c_drawF [] (.free 0 (.free 1 (.free 2 (.free 3 (.free 4 (.free 5 (.free 6 (.free 7 (.free 8 (.free 9 (.free 10 (.free 11 (.free 12 (.free 13 (.free 14 (.free 15 (.free 16 .nil))))))))))))))))) (by kernel_rfl) hF (by kernel_rfl) (by kernel_rfl) ?_
 clear hF; rintro w hF -
 refine ⟨fun wq => FR w0 [] [] wq, hF, ?_⟩
 refine f_free rfl (v := .pointer (some ⟨rb, 0, none⟩)) (fun w hC => x_move rfl) (f_free rfl (v := .pointer (some ⟨rb, 0, none⟩)) (fun w hC => x_nilCheck rfl) (f_free rfl (v := .pointer (some ⟨rb, 0, none⟩)) (fun w hC => x_fieldAddrO fa_69_0 rfl) (f_free rfl (v := .pointer (some ⟨rb, 0, none⟩)) (fun w hC => x_fieldAddrO fa_30_0 rfl) (f_free rfl (v := .slice (Aa) (la.length) (k1)) (fun w hC => x_load Tryz.isAgg22 rfl (hC.cell0 h.c0)) (f_free rfl (v := .int .i64 ((i : Nat))) (fun w hC => x_move rfl) ?_)))))
 obtain ⟨ad0, hA0, hk0, hx0⟩ := h.La.str_elem (i := i) (by omega)
 refine f_free rfl (v := .pointer (some (ad0.add (i * 1)))) (fun w hC => x_indexAddrA (i := (i : Nat)) sl_22 rfl hA0 rfl (by omega) (by omega)) (f_free rfl (v := .string (bs (la[i]))) (fun w hC => x_load Tryz.isAgg9 rfl (hC.cell0 hk0)) (f_free rfl (v := .pointer (some ⟨rb, 0, none⟩)) (fun w hC => x_move rfl) (f_free rfl (v := .pointer (some ⟨rb, 0, none⟩)) (fun w hC => x_nilCheck rfl) (f_free rfl (v := .pointer (some ⟨rb, 2, none⟩)) (fun w hC => x_fieldAddrO fa_69_1 rfl) (f_free rfl (v := .pointer (some ⟨rb, 2, none⟩)) (fun w hC => x_fieldAddrO fa_30_0 rfl) (f_free rfl (v := .slice (Ab) (lb.length) (k3)) (fun w hC => x_load Tryz.isAgg22 rfl (hC.cell0 h.c2)) (f_free rfl (v := .int .i64 ((j : Nat))) (fun w hC => x_move rfl) ?_)))))))
 obtain ⟨ad1, hA1, hk1, hx1⟩ := h.Lb.str_elem (i := j) (by omega)
 refine f_free rfl (v := .pointer (some (ad1.add (j * 1)))) (fun w hC => x_indexAddrA (i := (j : Nat)) sl_22 rfl hA1 rfl (by omega) (by omega)) (f_free rfl (v := .string (bs (lb[j]))) (fun w hC => x_load Tryz.isAgg9 rfl (hC.cell0 hk1)) (f_free rfl (v := .bool (decide ((la[i] : Str) = lb[j]))) (fun w hC => x_eqls rfl rfl) (d_nil (e_seq ?_))))
 refine c_splitd (d := 23) (p := (la[i] : Str) = lb[j]) rfl (fun hc0 => ?_) (fun hc0 => ?_)
 refine c_ift rfl (c_seq (c_region (o_val (x_assign rfl) (o_nil (e_seq ?_)))))
 refine c_ret (e_ret (post_ret (res_1 (v := .int .i64 (0)) rfl rfl) ?_))
 exact ⟨by rw [turnT, if_pos (by assumption)]; rfl, hF.same⟩
 refine c_iff rfl (c_skip (e_seq (c_seq (c_region (o_val (x_assign rfl) (o_nil (e_seq ?_)))))))
 refine c_ret (e_ret (post_ret (res_1 (v := .int .i64 (1)) rfl rfl) ?_))
 exact ⟨by rw [turnT, if_neg (by assumption)]; rfl, hF.same⟩
end Go.Scarf
