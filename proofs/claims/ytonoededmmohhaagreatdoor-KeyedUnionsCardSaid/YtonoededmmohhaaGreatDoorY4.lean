/- A part of the proof. -/
import Derived.Test.YtonoededmmohhaaGreatDoorY1
import Derived.Test.YtonoededmmohhaaGreatDoorS1
set_option linter.all false
namespace Go.Scarf
open Go.RowKit Go.Proofs
theorem had_yes {acc : List Str} {s : Str} {j : Nat} {b : Bool} (hb : b = decide (s ∈ acc.take j)) (h : b = true) (hj : j < acc.length) : true = decide (s ∈ acc.take (j + 1)) := by
  rw [h] at hb
  have := of_decide_eq_true hb.symm
  rw [List.take_succ_eq_append_getElem hj]
  exact (decide_eq_true (List.mem_append.2 (.inl this))).symm
theorem had_no {acc : List Str} {s : Str} {j : Nat} {b : Bool} (hb : b = decide (s ∈ acc.take j)) (h : b = false) (hj : j < acc.length) : decide (acc[j] = s) = decide (s ∈ acc.take (j + 1)) := by
  rw [h] at hb
  have h1 := of_decide_eq_false hb.symm
  rw [List.take_succ_eq_append_getElem hj]
  refine decide_eq_decide.2 ⟨fun e => List.mem_append.2 (.inr (by simp [e])), fun hm => ?_⟩
  rcases List.mem_append.1 hm with hm | hm
  · exact absurd hm h1
  · exact (List.mem_singleton.1 hm).symm
theorem strs_at {w0 w : World} {Ds : List Nat} {pre post sb : List (Nat × Obj)} {e c : Nat} {A : Option Addr} {ad : Addr} {acc : List Str} (hS : SlB e 1 A acc.length c (acc.map fun s => Value.string (bs s)) sb) (hF : FR w0 Ds (pre ++ (sb ++ post)) w) (hA : A = some ad) :
    ∀ q (h : q < acc.length), w.cell? (ad.add (q * 1)) = some (.string (bs acc[q])) := fun q h => by
  rw [Nat.mul_one]
  exact hS.cells hF ad hA q _ (by simp [h])
theorem some_of {e c : Nat} {A : Option Addr} {acc : List Str} {sb : List (Nat × Obj)} (hS : SlB e 1 A acc.length c (acc.map fun s => Value.string (bs s)) sb) (h : 0 < acc.length) : ∃ ad, A = some ad := by
  rcases hS.2 with ⟨h1, -⟩ | ⟨g, cur, hA, -⟩
  · omega
  · exact ⟨_, hA⟩
set_option maxHeartbeats 4000000 in
set_option maxRecDepth 10000 in
theorem runion_c (rows : List (List Str)) (R : Option Addr) (cr : Nat) (S : Nat → Prop) (w0 : World) (hX : Rep S w0 (.slice (rows.map strsD)) [.slice R rows.length cr]) (hn : rows.flatten.length ≤ 1000000) (hlim : ∀ s ∈ unionS rows, s.length ≤ 9223372036854775807) : Calls Tryz.prog 10 #[.slice R rows.length cr] w0 (Ret fun v w' => ∃ A c, v = .slice A (unionS rows).length c ∧ Rep (Btw w0 w') w' (strsD (unionS rows)) [.slice A (unionS rows).length c] ∧ Same [] w0 w') := by
 have hXl := hX.slice_len
 refine calls_start Tryz.func10 rfl Tryz.ntmps10 (Nat.le_of_ble_eq_true rfl) (args_1 _) ?_
 have hF := FR.start w0 []
 refine c_seq (c_region (o_val (x_assign rfl) (o_nil (e_seq (c_seq (c_region (o_val (x_assign rfl) (o_nil (e_seq (c_seq (c_seq (c_region (o_val (x_assign rfl) ?_)))))))))))))
 refine o_nil (e_seq (c_block ?_))
 replace hF : FR w0 [] ([] ++ ([] ++ [])) w0 := hF
 refine c_loop (fun μ σ w => ∃ (i : Nat), ∃ (acc : List Str), ∃ (A : Option Addr), ∃ (c : Nat), ∃ (sb : List (Nat × Obj)), μ = rows.length - i ∧ (i ≤ rows.length) ∧ (acc = (rows.take i).flatten.foldl addU []) ∧ (SlB 9 1 A acc.length c (acc.map fun s => Value.string (bs s)) sb) ∧ AllEq σ [(0, .slice (R) (rows.length) (cr)), (3, .slice (A) (acc.length) (c)), (4, .int .i64 ((i : Int)))] ∧ FR w0 [] ([] ++ (sb ++ [])) w) _ ⟨0, [], none, 0, [], rfl, (Nat.zero_le _), (rfl), (SlB.nil _ _), ⟨rfl, rfl, rfl, trivial⟩, hF⟩ ?_
 clear hF; rintro μ σ w ⟨i, acc, A, c, sb, rfl, hi, hacc, hS, hs, hF⟩
 refine Cg.slots hs ?_
 clear hs; intro σ
 refine c_seq (c_seq (c_region (o_val (x_move rfl) (o_val (x_move rfl) (o_val (v := .int .i64 ((rows.length : Nat))) (x_len_slice Tryz.underlying28 rfl) (o_val (v := .bool (decide (((i : Int) : Int) < ((rows.length : Nat) : Int)))) (x_lss rfl rfl) (o_nil (e_seq ?_))))))))
 refine c_splitd (d := 11) (p := ((i : Int) : Int) < ((rows.length : Nat) : Int)) rfl (fun hc0 => ?_) (fun hc0 => ?_)
 refine c_ift rfl (c_skip (e_seq (c_seq (c_block (c_seq ?_)))))
 obtain ⟨l, hl⟩ : ∃ l, l = rows[i]'(by omega) := ⟨_, rfl⟩
 have hfl := flat_len (rows := rows) (i := i) (by omega)
 rw [← hl] at hfl
 refine c_region (o_val (x_assign rfl) (o_nil (e_seq (c_block ?_))))
 refine c_loop (fun μ σ w => ∃ (kx : Nat), ∃ (acc : List Str), ∃ (A : Option Addr), ∃ (c : Nat), ∃ (sb : List (Nat × Obj)), μ = l.length - kx ∧ (kx ≤ l.length) ∧ (acc = (l.take kx).foldl addU ((rows.take i).flatten.foldl addU [])) ∧ (SlB 9 1 A acc.length c (acc.map fun s => Value.string (bs s)) sb) ∧ AllEq σ [(0, .slice (R) (rows.length) (cr)), (3, .slice (A) (acc.length) (c)), (4, .int .i64 ((i : Int))), (5, .int .i64 ((kx : Int)))] ∧ FR w0 [] ([] ++ (sb ++ [])) w) _ ⟨0, acc, A, c, sb, rfl, (Nat.zero_le _), (by rw [hacc]; rfl), (hS), ⟨rfl, rfl, rfl, rfl, trivial⟩, hF⟩ ?_
 clear hF; rintro μ σ w ⟨kx, acc, A, c, sb, rfl, hk, hacc, hS, hs, hF⟩
 refine Cg.slots hs ?_
 clear hs; intro σ
 have hal : acc.length ≤ (rows.take i).flatten.length + kx := by rw [hacc]; have h1 := fold_len (l.take kx) (((rows.take i).flatten).foldl addU []); have h2 := fold_len (rows.take i).flatten []; rw [List.length_take] at h1; simp only [List.length_nil] at h2; omega
 refine c_seq (c_seq (c_region (o_val (x_move rfl) (o_val (x_move rfl) (o_val (x_move rfl) ?_)))))
 obtain ⟨ad0, B0, e0, hA0, hk0, hx0⟩ := hX.row_elem (i := i) (by omega)
 rw [← hl] at hk0 hx0
 refine o_val (v := .pointer (some (ad0.add (i * 1)))) (x_indexAddrA (i := (i : Int)) sl_28 rfl hA0 rfl (by omega) (by omega)) (o_val (v := .slice (B0) (l.length) (e0)) (x_load Tryz.isAgg22 rfl (hF.cell0 hk0)) (o_val (v := .int .i64 ((l.length : Nat))) (x_len_slice Tryz.underlying22 rfl) (o_val (v := .bool (decide (((kx : Int) : Int) < ((l.length : Nat) : Int)))) (x_lss rfl rfl) (o_nil (e_seq ?_)))))
 refine c_splitd (d := 20) (p := ((kx : Int) : Int) < ((l.length : Nat) : Int)) rfl (fun hc1 => ?_) (fun hc1 => ?_)
 refine c_ift rfl (c_skip (e_seq (c_seq (c_block (c_seq (c_region (o_val (x_assign rfl) (o_nil (e_seq (c_seq (c_seq (c_region (o_val (x_assign rfl) ?_)))))))))))))
 refine o_nil (e_seq (c_block ?_))
 refine c_loop (fun μ σ w => ∃ (j : Nat), ∃ (hd : Bool), μ = acc.length - j ∧ (j ≤ acc.length) ∧ (hd = decide (l[kx]'(by omega) ∈ acc.take j)) ∧ AllEq σ [(0, .slice (R) (rows.length) (cr)), (3, .slice (A) (acc.length) (c)), (4, .int .i64 ((i : Int))), (5, .int .i64 ((kx : Int))), (6, .bool (hd)), (7, .int .i64 ((j : Int)))] ∧ FR w0 [] ([] ++ (sb ++ [])) w) _ ⟨0, false, rfl, (Nat.zero_le _), (by simp), ⟨rfl, rfl, rfl, rfl, rfl, rfl, trivial⟩, hF⟩ ?_
 clear hF; rintro μ σ w ⟨j, hd, rfl, hj, hhd, hs, hF⟩
 refine Cg.slots hs ?_
 clear hs; intro σ
 refine c_seq (c_seq (c_region (o_val (x_move rfl) (o_val (x_move rfl) (o_val (v := .int .i64 ((acc.length : Nat))) (x_len_slice Tryz.underlying22 rfl) (o_val (v := .bool (decide (((j : Int) : Int) < ((acc.length : Nat) : Int)))) (x_lss rfl rfl) (o_nil (e_seq ?_))))))))
 refine c_splitd (d := 26) (p := ((j : Int) : Int) < ((acc.length : Nat) : Int)) rfl (fun hc2 => ?_) (fun hc2 => ?_)
 refine c_ift rfl (c_skip (e_seq (c_seq (c_block ?_))))
 obtain ⟨ad, hAd⟩ := some_of hS (by omega)
 refine c_drawF [] (.free 0 (.free 1 (.free 2 (.free 3 (.free 4 (.free 5 (.free 6 (.free 7 (.free 8 (.free 9 (.free 10 (.free 11 (.free 12 (.free 13 (.free 14 (.free 15 .nil)))))))))))))))) (by kernel_rfl) hF (by kernel_rfl) (by kernel_rfl) ?_
 clear hF; rintro w hF -
 refine ⟨fun wq => FR w0 [] [] wq ∧ ∀ q (h : q < acc.length), wq.cell? (ad.add (q * 1)) = some (.string (bs acc[q])), ⟨hF.sub (List.nil_sublist _), strs_at hS hF hAd⟩, ?_⟩
 refine f_free rfl (v := .bool (hd)) (fun w hC => x_move rfl) (f_free rfl (v := .bool (hd)) (fun w hC => x_move rfl) ?_)
 refine d_split (d := 30) (b := hd) rfl (fun hg1 => ?_) (fun hg1 => ?_)
 refine f_off rfl ?_
 refine f_off rfl ?_
 refine f_off rfl ?_
 refine f_off rfl ?_
 refine f_off rfl ?_
 refine f_off rfl ?_
 refine f_off rfl ?_
 refine f_off rfl ?_
 refine f_off rfl ?_
 refine f_off rfl ?_
 refine f_off rfl ?_
 refine f_off rfl ?_
 refine f_free rfl (v := .bool true) (fun w hC => x_pickt rfl rfl) (f_free rfl (v := .bool true) (fun w hC => x_assign rfl) (d_nil (e_block (e_seq (c_region (o_val (x_move rfl) (o_val (v := .int .i64 (((j + 1 : Nat) : Int))) (x_add rfl rfl (wrap_to (by omega) (by omega) (by omega))) (o_val (x_assign rfl) (o_nil ?_)))))))))
 refine e_inv ⟨_, ?_, j + 1, true, rfl, (by omega), (had_yes hhd (by assumption) (by omega)), ⟨rfl, rfl, rfl, rfl, rfl, rfl, trivial⟩, hF⟩
 omega
 refine f_free rfl (v := .slice (A) (acc.length) (c)) (fun w hC => x_move rfl) (f_free rfl (v := .int .i64 ((j : Int))) (fun w hC => x_move rfl) (f_free rfl (v := .pointer (some (ad.add (j * 1)))) (fun w hC => x_indexAddrA (i := (j : Int)) sl_22 rfl hAd rfl (by omega) (by omega)) (f_free rfl (v := .string (bs ((acc[j]'(by omega))))) (fun w hC => x_load Tryz.isAgg9 rfl (hC.2 j (by omega))) (f_free rfl (v := .slice (R) (rows.length) (cr)) (fun w hC => x_move rfl) (f_free rfl (v := .int .i64 ((i : Int))) (fun w hC => x_move rfl) ?_)))))
 obtain ⟨ad2, B2, e2, hA2, hk2, hx2⟩ := hX.row_elem (i := i) (by omega)
 rw [← hl] at hk2 hx2
 refine f_free rfl (v := .pointer (some (ad2.add (i * 1)))) (fun w hC => x_indexAddrA (i := (i : Int)) sl_28 rfl hA2 rfl (by omega) (by omega)) (f_free rfl (v := .slice (B2) (l.length) (e2)) (fun w hC => x_load Tryz.isAgg22 rfl (hC.1.cell0 hk2)) (f_free rfl (v := .int .i64 ((kx : Int))) (fun w hC => x_move rfl) ?_))
 obtain ⟨ad3, hA3, hk3, hx3⟩ := hx2.str_elem (i := kx) (by omega)
 refine f_free rfl (v := .pointer (some (ad3.add (kx * 1)))) (fun w hC => x_indexAddrA (i := (kx : Int)) sl_22 rfl hA3 rfl (by omega) (by omega)) (f_free rfl (v := .string (bs (l[kx]))) (fun w hC => x_load Tryz.isAgg9 rfl (hC.1.cell0 hk3)) (f_free rfl (v := .bool (decide (((acc[j]'(by omega)) : Str) = l[kx]))) (fun w hC => x_eqls rfl rfl) (f_free rfl (v := .bool (decide (((acc[j]'(by omega)) : Str) = l[kx]))) (fun w hC => x_pickf rfl rfl) (f_free rfl (v := .bool (decide (((acc[j]'(by omega)) : Str) = l[kx]))) (fun w hC => x_assign rfl) (d_nil (e_block (e_seq (c_region (o_val (x_move rfl) (o_val (v := .int .i64 (((j + 1 : Nat) : Int))) (x_add rfl rfl (wrap_to (by omega) (by omega) (by omega))) (o_val (x_assign rfl) (o_nil ?_))))))))))))
 refine e_inv ⟨_, ?_, j + 1, decide (acc[j]'(by omega) = l[kx]'(by omega)), rfl, (by omega), (had_no hhd (by assumption) (by omega)), ⟨rfl, rfl, rfl, rfl, rfl, rfl, trivial⟩, hF⟩
 omega
 refine c_iff rfl ?_
 refine c_exit (e_exit rfl ?_)
 refine e_seq (c_seq ?_)
 have hall : hd = decide (l[kx] ∈ acc) := by rw [hhd, List.take_of_length_le (by omega)]
 refine c_region (o_val (x_move rfl) (o_val (v := .bool (!(hd))) (x_not rfl) (o_nil (e_seq ?_))))
 refine c_split (d := 45) (b := !(hd)) rfl (fun hc3 => ?_) (fun hc3 => ?_)
 refine c_ift rfl (c_region (o_val (x_move rfl) (o_val (x_move rfl) (o_val (x_move rfl) ?_))))
 obtain ⟨ad4, B4, e4, hA4, hk4, hx4⟩ := hX.row_elem (i := i) (by omega)
 rw [← hl] at hk4 hx4
 refine o_val (v := .pointer (some (ad4.add (i * 1)))) (x_indexAddrA (i := (i : Int)) sl_28 rfl hA4 rfl (by omega) (by omega)) (o_val (v := .slice (B4) (l.length) (e4)) (x_load Tryz.isAgg22 rfl (hF.cell0 hk4)) (o_val (x_move rfl) ?_))
 obtain ⟨ad5, hA5, hk5, hx5⟩ := hx4.str_elem (i := kx) (by omega)
 refine o_val (v := .pointer (some (ad5.add (kx * 1)))) (x_indexAddrA (i := (kx : Int)) sl_22 rfl hA5 rfl (by omega) (by omega)) (o_val (v := .string (bs (l[kx]))) (x_load Tryz.isAgg9 rfl (hF.cell0 hk5)) ?_)
 refine o_new (v := fun b => .slice (some ⟨b, 0, none⟩) 1 1) hF (x_buildSlice (cs := #[.string (bs (l[kx]))]) Tryz.underlying22 Tryz.sizeOf9 Tryz.zeroValue9 (by decide) (by decide) (by kernel_rfl)) ?_
 clear hF; rintro b1 w hb1 hF -
 refine o_append [(b1, .cells #[.string (bs (l[kx]))] 9)] [] (news := [.string (bs (l[kx]))]) (len' := (acc ++ [l[kx]]).length) (ys := ((acc ++ [l[kx]]).map fun s => Value.string (bs s))) el_22 hF hS rfl rfl (rfl) (fun _ => ⟨_, rfl, cells_opt (hF.cellsAll 0 rfl)⟩) (by simp [Value.oneCell']) (by simp only [maxLen]; omega) (by simp) (by simp) (by omega) ?_
 clear hF; intro A6 c6 o_6 w hS6_o hF hE hnew
 clear hE hnew
 refine o_val (x_assign rfl) (o_nil (e_block (e_seq (c_region (o_val (x_move rfl) (o_val (v := .int .i64 (((kx + 1 : Nat) : Int))) (x_add rfl rfl (wrap_to (by omega) (by omega) (by omega))) (o_val (x_assign rfl) (o_nil ?_))))))))
 refine e_inv ⟨_, ?_, kx + 1, acc ++ [l[kx]], A6, c6, o_6, rfl, (by omega), (by rw [fold_take (by omega), ← hacc, addU]; exact (if_neg (of_decide_eq_false (hall.symm.trans (nb_true (by assumption))))).symm), (hS6_o), ⟨rfl, rfl, rfl, rfl, trivial⟩, hF.drop 1⟩
 omega
 refine c_iff rfl (c_skip (e_block (e_seq (c_region (o_val (x_move rfl) (o_val (v := .int .i64 (((kx + 1 : Nat) : Int))) (x_add rfl rfl (wrap_to (by omega) (by omega) (by omega))) (o_val (x_assign rfl) (o_nil ?_))))))))
 refine e_inv ⟨_, ?_, kx + 1, acc, A, c, sb, rfl, (by omega), (by rw [fold_take (by omega), ← hacc, addU]; exact (if_pos (of_decide_eq_true (hall.symm.trans (nb_false (by assumption))))).symm), (hS), ⟨rfl, rfl, rfl, rfl, trivial⟩, hF⟩
 omega
 refine c_iff rfl ?_
 refine c_exit (e_exit rfl ?_)
 refine e_block (e_seq (c_region (o_val (x_move rfl) (o_val (v := .int .i64 (((i + 1 : Nat) : Int))) (x_add rfl rfl (wrap_to (by omega) (by omega) (by omega))) (o_val (x_assign rfl) (o_nil ?_))))))
 refine e_inv ⟨_, ?_, i + 1, acc, A, c, sb, rfl, (by omega), (by have etl : l.take kx = l := List.take_of_length_le (by omega); rw [flat_take (by omega), List.foldl_append, ← hl, hacc, etl]), (hS), ⟨rfl, rfl, rfl, trivial⟩, hF⟩
 omega
 refine c_iff rfl ?_
 refine c_exit (e_exit rfl ?_)
 refine e_seq (c_seq (c_region (o_val (x_move rfl) (o_val (x_assign rfl) (o_nil (e_seq ?_))))))
 refine c_ret (e_ret (post_ret (res_1 (v := .slice (A) (acc.length) (c)) rfl rfl) ?_))
 have ei : i = rows.length := by omega
 subst ei
 rw [List.take_length] at hacc
 have e2 : acc = unionS rows := hacc
 subst e2
 refine ⟨_, _, rfl, ?_, hF.same⟩
 have hK : RX w0 [] w ((unionS rows).map strD) _ := lits_of (q := unionS rows) hlim
 exact hS.rep (pre := []) (post := []) hF hK (by simp)
end Go.Scarf
