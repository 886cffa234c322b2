/- A part of the proof. -/
import Derived.Test.YtonoededmmohhaaGreatDoorE11
import Derived.Test.YtonoededmmohhaaGreatDoorW16
import Derived.Test.YtonoededmmohhaaGreatDoorS2
set_option linter.all false
namespace Go.Scarf
open Go.RowKit Go.Proofs
section
variable {α : Type} {f : α → α → Int} {xs ys : List α} {j : Nat} {Q q r : Int}
end
set_option maxHeartbeats 1000000 in
set_option maxRecDepth 10000 in
theorem rsortedV_c (x : Tree) (hsz : sizeT x ≤ 1000000000) (hm : maxL x ≤ 1073741824) (S : Nat → Prop) (w0 : World) (cs : List Value) (hR : Rep S w0 (treeD x) cs) : NewC 52 #[.agg cs.toArray] (treeD (sortedV x)) w0 := by
 have hl : cs.length = 4 := hR.length.trans (size_treeD x)
 have ho := hR.one_
 refine calls_start Tryz.func52 rfl Tryz.ntmps52 (Nat.le_of_ble_eq_true rfl) (args_1 _) ?_
 have hF := FR.start w0 []
 refine c_seq (c_region ?_)
 refine o_box (v := .agg (List.toArray cs)) (cs := (List.toArray cs)) hF rfl rfl ?_
 clear hF; rintro b1 w hb1 hF -
 refine o_alloc (cs := #[.int .i64 (0), .string (bs ([])), .slice (none) (0) (0), .slice (none) (0) (0)]) hF Tryz.zeroValue32 rfl ?_
 clear hF; rintro b2 w hb2 hF -
 refine o_nil (e_seq (c_seq (c_region (o_val (v := .agg (List.toArray cs)) (x_loadS (l := cs) Tryz.isAgg32 Tryz.sizeOf32 rfl hl (hF.cellsAll 1 rfl)) ?_))))
 refine o_call (ropen_t x hsz hm S _ cs (hF.rep hR)) (x_call1 en_49 rfl rfl) ?_
 rintro _ w ⟨rfl, hE⟩
 replace hF := hF.ext hE
 clear hE
 refine o_val (x_assign rfl) (o_nil (e_seq (c_seq (c_seq (c_region (o_val (x_move rfl) (o_val (v := .bool (!(openB x))) (x_not rfl) (o_nil (e_seq ?_)))))))))
 refine c_split (d := 7) (b := !(openB x)) rfl (fun hc0 => ?_) (fun hc0 => ?_)
 refine c_ift rfl (c_seq (c_region ?_))
 refine o_val (w' := w) (v := .agg #[.int .i64 (0), .string (bs ([])), .slice (none) (0) (0), .slice (none) (0) (0)]) (by kernel_rfl) ?_
 refine o_store 0 (l := [.int .i64 (0), .string (bs ([])), .slice (none) (0) (0), .slice (none) (0) (0)]) (cs' := #[.int .i64 (0), .string (bs ([])), .slice (none) (0) (0), .slice (none) (0) (0)]) hF Tryz.sizeOf32 rfl (v := .agg #[.int .i64 (0), .string (bs ([])), .slice (none) (0) (0), .slice (none) (0) (0)]) rfl rfl (by simp [one]) rfl (Nat.le_of_ble_eq_true rfl) rfl ?_
 clear hF; rintro w hF -
 replace hF : FR w0 [] [(b2, .cells #[.int .i64 (0), .string (bs ([])), .slice (none) (0) (0), .slice (none) (0) (0)] 32), (b1, .cells (List.toArray cs) 32)] w := hF
 refine o_nil (e_seq ?_)
 refine c_ret (e_ret (post_ret (res_c rfl (l := [.int .i64 (0), .string (bs ([])), .slice (none) (0) (0), .slice (none) (0) (0)]) rfl Tryz.isAgg32 Tryz.sizeOf32 rfl (hF.cellsAll 0 rfl)) ?_))
 have ho_ : openB x = false := nb_true (by assumption)
 refine ⟨_, rfl, ?_, hF.same⟩
 rw [sortedV, ho_]
 exact zero_rep _ _
 refine c_iff rfl (c_skip (e_seq (c_seq (c_region (o_val (v := .agg (List.toArray cs)) (x_loadS (l := cs) Tryz.isAgg32 Tryz.sizeOf32 rfl hl (hF.cellsAll 1 rfl)) ?_)))))
 refine o_call (rsortT_c x S _ cs (hF.rep hR) (open_all (nb_false (by assumption))) hsz) (x_call1 en_72 rfl rfl) ?_
 rintro _ w ⟨ct, rfl, hRt, hE⟩
 have hlct : ct.length = 4 := hRt.length.trans (size_treeD _)
 have hoct := hRt.one_
 have hXX := RX.made (ids := [b2, b1]) hF.same.size (fun x hx => hF.lt_ids (by grind)) hRt
 replace hF := hF.ext hE
 clear hE hRt
 refine o_store 0 (l := ct) (cs' := (List.toArray ct)) hF (by rw [hlct]; exact Tryz.sizeOf32) rfl (v := .agg (List.toArray ct)) rfl rfl (hoct) rfl (by rw [hlct]; exact Nat.le_of_ble_eq_true rfl) (putA_all (by rw [hlct]; rfl)) ?_
 clear hF; intro w hF hE
 replace hXX := hXX.store hE (by grind)
 clear hE
 replace hF : FR w0 [] [(b2, .cells (List.toArray ct) 32), (b1, .cells (List.toArray cs) 32)] w := hF
 refine o_nil (e_seq ?_)
 refine c_ret (e_ret (post_ret (res_c rfl (l := ct) rfl Tryz.isAgg32 Tryz.sizeOf32 hlct (hF.cellsAll 0 rfl)) ?_))
 have ho_ : openB x = true := nb_false (by assumption)
 refine ⟨_, rfl, ?_, hF.same⟩
 rw [sortedV, ho_]
 · exact hXX.done
end Go.Scarf
namespace Go.Scarf
open Go.RowKit Go.Proofs
theorem u8_quo {n : Nat} (h : n < 256) : IntKind.u8.wrap (((n : Nat) : Int).tdiv 16) = ((n / 16 : Nat) : Int) := by
  have : ((n : Nat) : Int).tdiv 16 = ((n / 16 : Nat) : Int) := rfl
  rw [this, IntKind.wrap_u8]; omega
theorem dg16 {k : Nat} (h : k < ([48, 49, 50, 51, 52, 53, 54, 55, 56, 57, 97, 98, 99, 100, 101, 102] : Str).length) : ([48, 49, 50, 51, 52, 53, 54, 55, 56, 57, 97, 98, 99, 100, 101, 102] : Str)[k] = dg k := by
  have : ∀ k < 16, ([48, 49, 50, 51, 52, 53, 54, 55, 56, 57, 97, 98, 99, 100, 101, 102] : Str)[k]? = some (dg k) := by decide
  have h2 := this k h
  rw [List.getElem?_eq_getElem h] at h2
  exact Option.some.inj h2
theorem u8_rem {n : Nat} : ((n : Nat) : Int).tmod 16 = ((n % 16 : Nat) : Int) := rfl
set_option maxHeartbeats 4000000 in
set_option maxRecDepth 10000 in
theorem rquote_c (s : Str) (hl : s.length ≤ 1099511627776) (w0 : World) : Calls Tryz.prog 70 #[.string (bs s)] w0 (Ret fun v w' => v = .tuple #[.string (bs (qS s)), .int .i64 (if Lib.validD s = true then 0 else 2)] ∧ Same [] w0 w') := by
 refine calls_start Tryz.func70 rfl Tryz.ntmps70 (Nat.le_of_ble_eq_true rfl) (args_1 _) ?_
 have hF := FR.start w0 []
 refine c_seq (c_region (o_val (x_assign rfl) (o_val (x_assign rfl) (o_nil (e_seq (c_seq (c_region (o_val (x_move rfl) ?_))))))))
 refine o_call (rvalid_c s (by omega) _) (x_call1 en_88 rfl rfl) ?_
 rintro _ w ⟨nn, rfl, hE⟩
 replace hF := hF.ext hE
 clear hE
 refine o_val (x_move rfl) (o_val (x_extract rfl rfl) (o_val (x_extract rfl rfl) (o_val (x_assign rfl) (o_val (x_assign rfl) (o_nil (e_seq (c_seq (c_seq (c_region (o_val (x_move rfl) (o_val (v := .bool (!(Lib.validD s))) (x_not rfl) (o_nil (e_seq ?_)))))))))))))
 refine c_split (d := 16) (b := !(Lib.validD s)) rfl (fun hc0 => ?_) (fun hc0 => ?_)
 refine c_ift rfl (c_seq (c_region (o_val (x_assign rfl) (o_val (x_assign rfl) (o_nil (e_seq ?_))))))
 refine c_ret (e_ret (post_ret (res_2 (v := .string (bs ([]))) (x := .int .i64 (2)) rfl rfl rfl) ?_))
 have hv : Lib.validD s = false := nb_true (by assumption)
 exact ⟨by rw [qS, hv]; rfl, hF.same⟩
 refine c_iff rfl (c_skip (e_seq (c_seq (c_region (o_val (x_assign rfl) (o_nil (e_seq (c_seq (c_region ?_)))))))))
 refine o_new (v := fun b => .slice (some ⟨b, 0, none⟩) 1 1) hF (x_buildSlice (cs := #[.int .u8 (34)]) Tryz.underlying93 Tryz.sizeOf5 Tryz.zeroValue5 (by decide) (by decide) (by kernel_rfl)) ?_
 clear hF; rintro b1 w hb1 hF -
 refine o_val (x_assign rfl) (o_nil (e_seq (c_seq (c_seq (c_region (o_val (x_assign rfl) (o_nil (e_seq (c_block ?_)))))))))
 have hS0 : SlB 5 1 (some ⟨b1, 0, none⟩) 1 1 (Lib.byteCells [34]) [(b1, .cells #[.int .u8 (34)] 5)] := ⟨by simp [Lib.byteCells], .inr ⟨b1, _, rfl, rfl, Nat.le_refl _, by decide, by simp, by simp [Lib.byteCells]⟩⟩
 replace hF := hF.toseg 0 rfl
 refine c_loop (fun μ σ w => ∃ (j : Nat), ∃ (acc : Str), ∃ (A : Option Addr), ∃ (c : Nat), ∃ (sb : List (Nat × Obj)), μ = s.length - j ∧ (j ≤ s.length) ∧ (1 ≤ acc.length ∧ acc.length ≤ 6 * j + 1) ∧ (acc = 34 :: escL (s.take j)) ∧ (SlB 5 1 A acc.length c (Lib.byteCells acc) sb) ∧ AllEq σ [(0, .string (bs (s))), (6, .string (bs ([48, 49, 50, 51, 52, 53, 54, 55, 56, 57, 97, 98, 99, 100, 101, 102]))), (7, .slice (A) (acc.length) (c)), (8, .int .i64 ((j : Int)))] ∧ FR w0 [] ([] ++ (sb ++ [])) w) _ ⟨0, [34], _, _, _, rfl, (Nat.zero_le _), (by simp), (rfl), (hS0), ⟨rfl, rfl, rfl, rfl, trivial⟩, hF⟩ ?_
 clear hF; rintro μ σ w ⟨j, acc, A, c, sb, rfl, hj, ha, hq, hS, hs, hF⟩
 refine Cg.slots hs ?_
 clear hs; intro σ
 refine c_seq (c_seq (c_region (o_val (x_move rfl) (o_val (x_move rfl) (o_val (v := .int .i64 ((((s) : Str).length : Int))) (x_len_string Tryz.underlying9 rfl) (o_val (v := .bool (decide (((j : Int) : Int) < ((((s) : Str).length : Int) : Int)))) (x_lss rfl rfl) (o_nil (e_seq ?_))))))))
 refine c_splitd (d := 21) (p := ((j : Int) : Int) < ((((s) : Str).length : Int) : Int)) rfl (fun hc1 => ?_) (fun hc1 => ?_)
 refine c_ift rfl (c_skip (e_seq (c_seq (c_block (c_seq (c_region (o_val (x_move rfl) (o_val (x_move rfl) (o_val (v := .int .u8 ((((s : Str)[j]'(by omega)).toNat : Int))) (x_index (j) Tryz.underlying9 rfl rfl (by omega)) (o_val (x_assign rfl) (o_nil (e_seq (c_seq ?_)))))))))))))
 refine c_region (o_val (x_move rfl) (o_val (v := .bool (decide (((((s : Str)[j]'(by omega)).toNat : Int) : Int) = (34 : Int)))) (x_eql rfl rfl) (o_val (x_move rfl) ?_)))
 refine o_splitd (d := 29) (p := ((((s : Str)[j]'(by omega)).toNat : Int) : Int) = (34 : Int)) rfl (fun hg0 => ?_) (fun hg0 => ?_)
 refine o_off (o_off (o_val (x_pickt rfl rfl) (o_nil (e_seq (c_ift rfl (c_region (o_val (x_move rfl) (o_val (x_move rfl) ?_))))))))
 refine o_new (v := fun b => .slice (some ⟨b, 0, none⟩) 2 2) hF (x_buildSlice (cs := #[.int .u8 (92), .int .u8 ((((s : Str)[j]'(by omega)).toNat : Int))]) Tryz.underlying93 Tryz.sizeOf5 Tryz.zeroValue5 (by decide) (by decide) (by kernel_rfl)) ?_
 clear hF; rintro b2 w hb2 hF -
 refine o_append [(b2, .cells #[.int .u8 (92), .int .u8 ((((s : Str)[j]'(by omega)).toNat : Int))] 5)] [] (news := [.int .u8 (92), .int .u8 ((((s : Str)[j]'(by omega)).toNat : Int))]) (len' := (acc ++ escB (s[j]'(by omega))).length) (ys := Lib.byteCells (acc ++ escB (s[j]'(by omega)))) el_93 hF hS rfl rfl (rfl) (fun _ => ⟨_, rfl, cells_opt (hF.cellsAll 0 rfl)⟩) (by simp [Value.oneCell']) (by simp only [maxLen]; omega) (by rw [esc_q (by omega)]; simp) (by rw [esc_q (by omega)]; simp [Lib.byteCells, dg16]) (by omega) ?_
 clear hF; intro A1 c1 o_1 w hS1_o hF hE hnew
 clear hE hnew
 refine o_val (x_assign rfl) (o_nil (e_block (e_seq (c_region (o_val (x_move rfl) (o_val (v := .int .i64 (((j + 1 : Nat) : Int))) (x_add rfl rfl (wrap_to (by omega) (by omega) (by omega))) (o_val (x_assign rfl) (o_nil ?_))))))))
 refine e_inv ⟨_, ?_, j + 1, acc ++ escB (s[j]'(by omega)), A1, c1, o_1, rfl, (by omega), (by have := escB_len (s[j]'(by omega)); rw [List.length_append]; omega), (by rw [escL_snoc (by omega), hq]; rfl), (hS1_o), ⟨rfl, rfl, rfl, rfl, trivial⟩, hF.drop 1⟩
 omega
 refine o_val (x_move rfl) (o_val (v := .bool (decide (((((s : Str)[j]'(by omega)).toNat : Int) : Int) = (92 : Int)))) (x_eql rfl rfl) (o_val (x_pickf rfl rfl) (o_nil (e_seq ?_))))
 refine c_splitd (d := 32) (p := ((((s : Str)[j]'(by omega)).toNat : Int) : Int) = (92 : Int)) rfl (fun hc2 => ?_) (fun hc2 => ?_)
 refine c_ift rfl (c_region (o_val (x_move rfl) (o_val (x_move rfl) ?_)))
 refine o_new (v := fun b => .slice (some ⟨b, 0, none⟩) 2 2) hF (x_buildSlice (cs := #[.int .u8 (92), .int .u8 ((((s : Str)[j]'(by omega)).toNat : Int))]) Tryz.underlying93 Tryz.sizeOf5 Tryz.zeroValue5 (by decide) (by decide) (by kernel_rfl)) ?_
 clear hF; rintro b3 w hb3 hF -
 refine o_append [(b3, .cells #[.int .u8 (92), .int .u8 ((((s : Str)[j]'(by omega)).toNat : Int))] 5)] [] (news := [.int .u8 (92), .int .u8 ((((s : Str)[j]'(by omega)).toNat : Int))]) (len' := (acc ++ escB (s[j]'(by omega))).length) (ys := Lib.byteCells (acc ++ escB (s[j]'(by omega)))) el_93 hF hS rfl rfl (rfl) (fun _ => ⟨_, rfl, cells_opt (hF.cellsAll 0 rfl)⟩) (by simp [Value.oneCell']) (by simp only [maxLen]; omega) (by rw [esc_q (by omega)]; simp) (by rw [esc_q (by omega)]; simp [Lib.byteCells, dg16]) (by omega) ?_
 clear hF; intro A2 c2 o_2 w hS2_o hF hE hnew
 clear hE hnew
 refine o_val (x_assign rfl) (o_nil (e_block (e_seq (c_region (o_val (x_move rfl) (o_val (v := .int .i64 (((j + 1 : Nat) : Int))) (x_add rfl rfl (wrap_to (by omega) (by omega) (by omega))) (o_val (x_assign rfl) (o_nil ?_))))))))
 refine e_inv ⟨_, ?_, j + 1, acc ++ escB (s[j]'(by omega)), A2, c2, o_2, rfl, (by omega), (by have := escB_len (s[j]'(by omega)); rw [List.length_append]; omega), (by rw [escL_snoc (by omega), hq]; rfl), (hS2_o), ⟨rfl, rfl, rfl, rfl, trivial⟩, hF.drop 1⟩
 omega
 refine c_iff rfl (c_seq (c_region (o_val (x_move rfl) (o_val (v := .bool (decide (((((s : Str)[j]'(by omega)).toNat : Int) : Int) = (8 : Int)))) (x_eql rfl rfl) (o_nil (e_seq ?_))))))
 refine c_splitd (d := 38) (p := ((((s : Str)[j]'(by omega)).toNat : Int) : Int) = (8 : Int)) rfl (fun hc3 => ?_) (fun hc3 => ?_)
 refine c_ift rfl (c_region (o_val (x_move rfl) ?_))
 refine o_appendS [] [] (txt := [92, 98]) (len' := (acc ++ escB (s[j]'(by omega))).length) (ys := Lib.byteCells (acc ++ escB (s[j]'(by omega)))) el_93 Tryz.underlying9 rfl hF hS rfl rfl (by decide) (by simp; omega) (by rw [esc_lit 8 (t := [92, 98]) (by decide) (by decide +kernel) (by assumption)]; simp) (by rw [esc_lit 8 (t := [92, 98]) (by decide) (by decide +kernel) (by assumption)]; simp [Lib.byteCells, dg16]) ?_
 clear hF; intro A3 c3 o_3 w hS3_o hF hE hnew
 clear hE hnew
 refine o_val (x_assign rfl) (o_nil (e_block (e_seq (c_region (o_val (x_move rfl) (o_val (v := .int .i64 (((j + 1 : Nat) : Int))) (x_add rfl rfl (wrap_to (by omega) (by omega) (by omega))) (o_val (x_assign rfl) (o_nil ?_))))))))
 refine e_inv ⟨_, ?_, j + 1, acc ++ escB (s[j]'(by omega)), A3, c3, o_3, rfl, (by omega), (by have := escB_len (s[j]'(by omega)); rw [List.length_append]; omega), (by rw [escL_snoc (by omega), hq]; rfl), (hS3_o), ⟨rfl, rfl, rfl, rfl, trivial⟩, hF⟩
 omega
 refine c_iff rfl (c_seq (c_region (o_val (x_move rfl) (o_val (v := .bool (decide (((((s : Str)[j]'(by omega)).toNat : Int) : Int) = (12 : Int)))) (x_eql rfl rfl) (o_nil (e_seq ?_))))))
 refine c_splitd (d := 42) (p := ((((s : Str)[j]'(by omega)).toNat : Int) : Int) = (12 : Int)) rfl (fun hc4 => ?_) (fun hc4 => ?_)
 refine c_ift rfl (c_region (o_val (x_move rfl) ?_))
 refine o_appendS [] [] (txt := [92, 102]) (len' := (acc ++ escB (s[j]'(by omega))).length) (ys := Lib.byteCells (acc ++ escB (s[j]'(by omega)))) el_93 Tryz.underlying9 rfl hF hS rfl rfl (by decide) (by simp; omega) (by rw [esc_lit 12 (t := [92, 102]) (by decide) (by decide +kernel) (by assumption)]; simp) (by rw [esc_lit 12 (t := [92, 102]) (by decide) (by decide +kernel) (by assumption)]; simp [Lib.byteCells, dg16]) ?_
 clear hF; intro A4 c4 o_4 w hS4_o hF hE hnew
 clear hE hnew
 refine o_val (x_assign rfl) (o_nil (e_block (e_seq (c_region (o_val (x_move rfl) (o_val (v := .int .i64 (((j + 1 : Nat) : Int))) (x_add rfl rfl (wrap_to (by omega) (by omega) (by omega))) (o_val (x_assign rfl) (o_nil ?_))))))))
 refine e_inv ⟨_, ?_, j + 1, acc ++ escB (s[j]'(by omega)), A4, c4, o_4, rfl, (by omega), (by have := escB_len (s[j]'(by omega)); rw [List.length_append]; omega), (by rw [escL_snoc (by omega), hq]; rfl), (hS4_o), ⟨rfl, rfl, rfl, rfl, trivial⟩, hF⟩
 omega
 refine c_iff rfl (c_seq (c_region (o_val (x_move rfl) (o_val (v := .bool (decide (((((s : Str)[j]'(by omega)).toNat : Int) : Int) = (10 : Int)))) (x_eql rfl rfl) (o_nil (e_seq ?_))))))
 refine c_splitd (d := 46) (p := ((((s : Str)[j]'(by omega)).toNat : Int) : Int) = (10 : Int)) rfl (fun hc5 => ?_) (fun hc5 => ?_)
 refine c_ift rfl (c_region (o_val (x_move rfl) ?_))
 refine o_appendS [] [] (txt := [92, 110]) (len' := (acc ++ escB (s[j]'(by omega))).length) (ys := Lib.byteCells (acc ++ escB (s[j]'(by omega)))) el_93 Tryz.underlying9 rfl hF hS rfl rfl (by decide) (by simp; omega) (by rw [esc_lit 10 (t := [92, 110]) (by decide) (by decide +kernel) (by assumption)]; simp) (by rw [esc_lit 10 (t := [92, 110]) (by decide) (by decide +kernel) (by assumption)]; simp [Lib.byteCells, dg16]) ?_
 clear hF; intro A5 c5 o_5 w hS5_o hF hE hnew
 clear hE hnew
 refine o_val (x_assign rfl) (o_nil (e_block (e_seq (c_region (o_val (x_move rfl) (o_val (v := .int .i64 (((j + 1 : Nat) : Int))) (x_add rfl rfl (wrap_to (by omega) (by omega) (by omega))) (o_val (x_assign rfl) (o_nil ?_))))))))
 refine e_inv ⟨_, ?_, j + 1, acc ++ escB (s[j]'(by omega)), A5, c5, o_5, rfl, (by omega), (by have := escB_len (s[j]'(by omega)); rw [List.length_append]; omega), (by rw [escL_snoc (by omega), hq]; rfl), (hS5_o), ⟨rfl, rfl, rfl, rfl, trivial⟩, hF⟩
 omega
 refine c_iff rfl (c_seq (c_region (o_val (x_move rfl) (o_val (v := .bool (decide (((((s : Str)[j]'(by omega)).toNat : Int) : Int) = (13 : Int)))) (x_eql rfl rfl) (o_nil (e_seq ?_))))))
 refine c_splitd (d := 50) (p := ((((s : Str)[j]'(by omega)).toNat : Int) : Int) = (13 : Int)) rfl (fun hc6 => ?_) (fun hc6 => ?_)
 refine c_ift rfl (c_region (o_val (x_move rfl) ?_))
 refine o_appendS [] [] (txt := [92, 114]) (len' := (acc ++ escB (s[j]'(by omega))).length) (ys := Lib.byteCells (acc ++ escB (s[j]'(by omega)))) el_93 Tryz.underlying9 rfl hF hS rfl rfl (by decide) (by simp; omega) (by rw [esc_lit 13 (t := [92, 114]) (by decide) (by decide +kernel) (by assumption)]; simp) (by rw [esc_lit 13 (t := [92, 114]) (by decide) (by decide +kernel) (by assumption)]; simp [Lib.byteCells, dg16]) ?_
 clear hF; intro A6 c6 o_6 w hS6_o hF hE hnew
 clear hE hnew
 refine o_val (x_assign rfl) (o_nil (e_block (e_seq (c_region (o_val (x_move rfl) (o_val (v := .int .i64 (((j + 1 : Nat) : Int))) (x_add rfl rfl (wrap_to (by omega) (by omega) (by omega))) (o_val (x_assign rfl) (o_nil ?_))))))))
 refine e_inv ⟨_, ?_, j + 1, acc ++ escB (s[j]'(by omega)), A6, c6, o_6, rfl, (by omega), (by have := escB_len (s[j]'(by omega)); rw [List.length_append]; omega), (by rw [escL_snoc (by omega), hq]; rfl), (hS6_o), ⟨rfl, rfl, rfl, rfl, trivial⟩, hF⟩
 omega
 refine c_iff rfl (c_seq (c_region (o_val (x_move rfl) (o_val (v := .bool (decide (((((s : Str)[j]'(by omega)).toNat : Int) : Int) = (9 : Int)))) (x_eql rfl rfl) (o_nil (e_seq ?_))))))
 refine c_splitd (d := 54) (p := ((((s : Str)[j]'(by omega)).toNat : Int) : Int) = (9 : Int)) rfl (fun hc7 => ?_) (fun hc7 => ?_)
 refine c_ift rfl (c_region (o_val (x_move rfl) ?_))
 refine o_appendS [] [] (txt := [92, 116]) (len' := (acc ++ escB (s[j]'(by omega))).length) (ys := Lib.byteCells (acc ++ escB (s[j]'(by omega)))) el_93 Tryz.underlying9 rfl hF hS rfl rfl (by decide) (by simp; omega) (by rw [esc_lit 9 (t := [92, 116]) (by decide) (by decide +kernel) (by assumption)]; simp) (by rw [esc_lit 9 (t := [92, 116]) (by decide) (by decide +kernel) (by assumption)]; simp [Lib.byteCells, dg16]) ?_
 clear hF; intro A7 c7 o_7 w hS7_o hF hE hnew
 clear hE hnew
 refine o_val (x_assign rfl) (o_nil (e_block (e_seq (c_region (o_val (x_move rfl) (o_val (v := .int .i64 (((j + 1 : Nat) : Int))) (x_add rfl rfl (wrap_to (by omega) (by omega) (by omega))) (o_val (x_assign rfl) (o_nil ?_))))))))
 refine e_inv ⟨_, ?_, j + 1, acc ++ escB (s[j]'(by omega)), A7, c7, o_7, rfl, (by omega), (by have := escB_len (s[j]'(by omega)); rw [List.length_append]; omega), (by rw [escL_snoc (by omega), hq]; rfl), (hS7_o), ⟨rfl, rfl, rfl, rfl, trivial⟩, hF⟩
 omega
 refine c_iff rfl (c_seq (c_region (o_val (x_move rfl) (o_val (v := .bool (decide (((((s : Str)[j]'(by omega)).toNat : Int) : Int) < (32 : Int)))) (x_lss rfl rfl) (o_nil (e_seq ?_))))))
 refine c_splitd (d := 58) (p := ((((s : Str)[j]'(by omega)).toNat : Int) : Int) < (32 : Int)) rfl (fun hc8 => ?_) (fun hc8 => ?_)
 refine c_ift rfl ?_
 refine c_drawF [] (.free 0 (.free 1 (.free 2 (.free 3 (.free 4 (.free 5 (.free 6 (.free 7 (.free 8 (.act 9 (.act 10 (.free 11 .nil)))))))))))) (by kernel_rfl) hF (by kernel_rfl) (by kernel_rfl) ?_
 clear hF; rintro w hF -
 refine ⟨fun wq => FR w0 [] [] wq, hF.sub (List.nil_sublist _), ?_⟩
 refine f_free rfl (v := .slice (A) (acc.length) (c)) (fun w hC => x_move rfl) (f_free rfl (v := .string (bs ([48, 49, 50, 51, 52, 53, 54, 55, 56, 57, 97, 98, 99, 100, 101, 102]))) (fun w hC => x_move rfl) (f_free rfl (v := .int .u8 ((((s : Str)[j]'(by omega)).toNat : Int))) (fun w hC => x_move rfl) (f_free rfl (v := .int .u8 ((((s[j]'(by omega)).toNat / 16 : Nat) : Int))) (fun w hC => x_quo rfl rfl (by decide) (u8_quo (UInt8.toNat_lt _))) ?_)))
 refine f_free rfl (v := .int .u8 (((([48, 49, 50, 51, 52, 53, 54, 55, 56, 57, 97, 98, 99, 100, 101, 102] : Str)[(s[j]'(by omega)).toNat / 16]'(by simp; omega)).toNat : Int))) (fun w hC => x_index ((s[j]'(by omega)).toNat / 16) Tryz.underlying9 rfl rfl (by simp; omega)) ?_
 refine f_free rfl (v := .string (bs ([48, 49, 50, 51, 52, 53, 54, 55, 56, 57, 97, 98, 99, 100, 101, 102]))) (fun w hC => x_move rfl) (f_free rfl (v := .int .u8 ((((s : Str)[j]'(by omega)).toNat : Int))) (fun w hC => x_move rfl) (f_free rfl (v := .int .u8 ((((s[j]'(by omega)).toNat % 16 : Nat) : Int))) (fun w hC => x_rem rfl rfl (by decide) (u8_rem)) ?_))
 refine f_free rfl (v := .int .u8 (((([48, 49, 50, 51, 52, 53, 54, 55, 56, 57, 97, 98, 99, 100, 101, 102] : Str)[(s[j]'(by omega)).toNat % 16]'(by simp; omega)).toNat : Int))) (fun w hC => x_index ((s[j]'(by omega)).toNat % 16) Tryz.underlying9 rfl rfl (by simp; omega)) ?_
 refine f_new rfl (v := fun b => .slice (some ⟨b, 0, none⟩) 6 6) hF (x_buildSlice (cs := #[.int .u8 (92), .int .u8 (117), .int .u8 (48), .int .u8 (48), .int .u8 (((([48, 49, 50, 51, 52, 53, 54, 55, 56, 57, 97, 98, 99, 100, 101, 102] : Str)[(s[j]'(by omega)).toNat / 16]'(by simp; omega)).toNat : Int)), .int .u8 (((([48, 49, 50, 51, 52, 53, 54, 55, 56, 57, 97, 98, 99, 100, 101, 102] : Str)[(s[j]'(by omega)).toNat % 16]'(by simp; omega)).toNat : Int))]) Tryz.underlying93 Tryz.sizeOf5 Tryz.zeroValue5 (by decide) (by decide) (by kernel_rfl)) ?_
 clear hF; rintro b4 w hb4 hF -
 refine ⟨hF.sub (.cons _ (List.nil_sublist _)), ?_⟩
 refine f_append [(b4, .cells #[.int .u8 (92), .int .u8 (117), .int .u8 (48), .int .u8 (48), .int .u8 (((([48, 49, 50, 51, 52, 53, 54, 55, 56, 57, 97, 98, 99, 100, 101, 102] : Str)[(s[j]'(by omega)).toNat / 16]'(by simp; omega)).toNat : Int)), .int .u8 (((([48, 49, 50, 51, 52, 53, 54, 55, 56, 57, 97, 98, 99, 100, 101, 102] : Str)[(s[j]'(by omega)).toNat % 16]'(by simp; omega)).toNat : Int))] 5)] [] (news := [.int .u8 (92), .int .u8 (117), .int .u8 (48), .int .u8 (48), .int .u8 (((([48, 49, 50, 51, 52, 53, 54, 55, 56, 57, 97, 98, 99, 100, 101, 102] : Str)[(s[j]'(by omega)).toNat / 16]'(by simp; omega)).toNat : Int)), .int .u8 (((([48, 49, 50, 51, 52, 53, 54, 55, 56, 57, 97, 98, 99, 100, 101, 102] : Str)[(s[j]'(by omega)).toNat % 16]'(by simp; omega)).toNat : Int))]) (len' := (acc ++ escB (s[j]'(by omega))).length) (ys := Lib.byteCells (acc ++ escB (s[j]'(by omega)))) rfl el_93 hF hS rfl rfl (rfl) (fun _ => ⟨_, rfl, cells_opt (hF.cellsAll 0 rfl)⟩) (by simp [Value.oneCell']) (by simp only [maxLen]; omega) (by rw [esc_ctl (by omega) (by omega) (by omega) (by omega) (by omega) (by omega)]; simp) (by rw [esc_ctl (by omega) (by omega) (by omega) (by omega) (by omega) (by omega)]; simp [Lib.byteCells, dg16]) (by omega) ?_
 clear hF; intro A8 c8 o_8 w hS8_o hF hE hnew
 clear hE hnew
 refine ⟨hF.sub (.cons _ (List.nil_sublist _)), ?_⟩
 refine f_free rfl (v := .slice (A8) ((acc ++ escB (s[j]'(by omega))).length) (c8)) (fun w hC => x_assign rfl) (d_nil (e_block (e_seq (c_region (o_val (x_move rfl) (o_val (v := .int .i64 (((j + 1 : Nat) : Int))) (x_add rfl rfl (wrap_to (by omega) (by omega) (by omega))) (o_val (x_assign rfl) (o_nil ?_))))))))
 refine e_inv ⟨_, ?_, j + 1, acc ++ escB (s[j]'(by omega)), A8, c8, o_8, rfl, (by omega), (by have := escB_len (s[j]'(by omega)); rw [List.length_append]; omega), (by rw [escL_snoc (by omega), hq]; rfl), (hS8_o), ⟨rfl, rfl, rfl, rfl, trivial⟩, hF.drop 1⟩
 omega
 refine c_iff rfl (c_region (o_val (x_move rfl) (o_val (x_move rfl) ?_)))
 refine o_new (v := fun b => .slice (some ⟨b, 0, none⟩) 1 1) hF (x_buildSlice (cs := #[.int .u8 ((((s : Str)[j]'(by omega)).toNat : Int))]) Tryz.underlying93 Tryz.sizeOf5 Tryz.zeroValue5 (by decide) (by decide) (by kernel_rfl)) ?_
 clear hF; rintro b5 w hb5 hF -
 refine o_append [(b5, .cells #[.int .u8 ((((s : Str)[j]'(by omega)).toNat : Int))] 5)] [] (news := [.int .u8 ((((s : Str)[j]'(by omega)).toNat : Int))]) (len' := (acc ++ escB (s[j]'(by omega))).length) (ys := Lib.byteCells (acc ++ escB (s[j]'(by omega)))) el_93 hF hS rfl rfl (rfl) (fun _ => ⟨_, rfl, cells_opt (hF.cellsAll 0 rfl)⟩) (by simp [Value.oneCell']) (by simp only [maxLen]; omega) (by rw [esc_plain (by omega) (by omega) (by omega)]; simp) (by rw [esc_plain (by omega) (by omega) (by omega)]; simp [Lib.byteCells, dg16]) (by omega) ?_
 clear hF; intro A9 c9 o_9 w hS9_o hF hE hnew
 clear hE hnew
 refine o_val (x_assign rfl) (o_nil (e_block (e_seq (c_region (o_val (x_move rfl) (o_val (v := .int .i64 (((j + 1 : Nat) : Int))) (x_add rfl rfl (wrap_to (by omega) (by omega) (by omega))) (o_val (x_assign rfl) (o_nil ?_))))))))
 refine e_inv ⟨_, ?_, j + 1, acc ++ escB (s[j]'(by omega)), A9, c9, o_9, rfl, (by omega), (by have := escB_len (s[j]'(by omega)); rw [List.length_append]; omega), (by rw [escL_snoc (by omega), hq]; rfl), (hS9_o), ⟨rfl, rfl, rfl, rfl, trivial⟩, hF.drop 1⟩
 omega
 refine c_iff rfl ?_
 refine c_exit (e_exit rfl ?_)
 refine e_seq (c_seq (c_region (o_val (x_move rfl) ?_)))
 refine o_new (v := fun b => .slice (some ⟨b, 0, none⟩) 1 1) hF (x_buildSlice (cs := #[.int .u8 (34)]) Tryz.underlying93 Tryz.sizeOf5 Tryz.zeroValue5 (by decide) (by decide) (by kernel_rfl)) ?_
 clear hF; rintro b6 w hb6 hF -
 refine o_append [(b6, .cells #[.int .u8 (34)] 5)] [] (news := [.int .u8 (34)]) (len' := (acc ++ [34]).length) (ys := Lib.byteCells (acc ++ [34])) el_93 hF hS rfl rfl (rfl) (fun _ => ⟨_, rfl, cells_opt (hF.cellsAll 0 rfl)⟩) (by simp [Value.oneCell']) (by simp only [maxLen]; omega) (by simp) (by simp [Lib.byteCells]) (by omega) ?_
 clear hF; intro A10 c10 o_10 w hS10_o hF hE hnew
 clear hE hnew
 refine o_val (v := .string (bs (acc ++ [34]))) (x_convSl (s := acc ++ [34]) hS10_o hF Tryz.underlying93 Tryz.underlying5 Tryz.underlying9 rfl) (o_val (x_assign rfl) (o_val (x_assign rfl) (o_nil (e_seq ?_))))
 refine c_ret (e_ret (post_ret (res_2 (v := .string (bs (acc ++ [34]))) (x := .int .i64 (0)) rfl rfl rfl) ?_))
 have hv : Lib.validD s = true := nb_false (by assumption)
 exact ⟨by rw [quote_of hv hq (by omega), hv]; rfl, hF.same⟩
theorem repL_n (n : Nat) : (Lib.repeatL [32] n).length = n := by
  induction n with
  | zero => rfl
  | succ n ih => simp [Lib.repeatL, ih]; try omega
theorem rep_snoc (n : Nat) : Lib.repeatL [32] n ++ [32] = Lib.repeatL [32] (n + 1) := by
  induction n with
  | zero => rfl
  | succ n ih => rw [Lib.repeatL, List.append_assoc, ih]; rfl
set_option maxHeartbeats 1000000 in
set_option maxRecDepth 10000 in
theorem blanks_c (n : Nat) (hn : n ≤ 1099511627776) (w0 : World) : Calls Tryz.prog 71 #[.int .i64 (n : Nat)] w0 (Ret fun v w' => v = .string (bs (Lib.repeatL [32] n)) ∧ Same [] w0 w') := by
 refine calls_start Tryz.func71 rfl Tryz.ntmps71 (Nat.le_of_ble_eq_true rfl) (args_1 _) ?_
 have hF := FR.start w0 []
 refine c_seq (c_region (o_val (x_assign rfl) (o_nil (e_seq (c_seq (c_region (o_val (x_assign rfl) (o_nil (e_seq (c_seq (c_seq (c_region (o_val (x_assign rfl) ?_)))))))))))))
 refine o_nil (e_seq (c_block ?_))
 refine c_loop (fun μ σ w => ∃ (j : Nat), ∃ (s : Str), μ = n - j ∧ (j ≤ n) ∧ (s = Lib.repeatL [32] j) ∧ AllEq σ [(0, .int .i64 ((n : Nat))), (3, .string (bs (s))), (4, .int .i64 ((j : Int)))] ∧ FR w0 [] [] w) _ ⟨0, [], rfl, (Nat.zero_le _), (rfl), ⟨rfl, rfl, rfl, trivial⟩, hF⟩ ?_
 clear hF; rintro μ σ w ⟨j, s, rfl, hj, hs, hs, hF⟩
 refine Cg.slots hs ?_
 clear hs; intro σ
 refine c_seq (c_seq (c_region (o_val (x_move rfl) (o_val (x_move rfl) (o_val (v := .bool (decide (((j : Int) : Int) < ((n : Nat) : Int)))) (x_lss rfl rfl) (o_nil (e_seq ?_)))))))
 refine c_splitd (d := 7) (p := ((j : Int) : Int) < ((n : Nat) : Int)) rfl (fun hc0 => ?_) (fun hc0 => ?_)
 refine c_ift rfl (c_skip (e_seq (c_seq (c_block (c_region (o_val (x_move rfl) ?_))))))
 refine o_val (v := .string (bs ((s) ++ ([32])))) (x_cat rfl rfl (by rw [hs, repL_n]; simp; omega)) ?_
 refine o_val (x_assign rfl) (o_nil (e_block (e_seq (c_region (o_val (x_move rfl) (o_val (v := .int .i64 (((j + 1 : Nat) : Int))) (x_add rfl rfl (wrap_to (by omega) (by omega) (by omega))) (o_val (x_assign rfl) (o_nil ?_))))))))
 refine e_inv ⟨_, ?_, j + 1, s ++ [32], rfl, (by omega), (by rw [hs]; exact rep_snoc j), ⟨rfl, rfl, rfl, trivial⟩, hF⟩
 omega
 refine c_iff rfl ?_
 refine c_exit (e_exit rfl ?_)
 refine e_seq (c_seq (c_region (o_val (x_move rfl) (o_val (x_assign rfl) (o_nil (e_seq ?_))))))
 refine c_ret (e_ret (post_ret (res_1 (v := .string (bs (s))) rfl rfl) ?_))
 have ej : j = n := by omega
 subst ej
 exact ⟨by rw [hs], hF.same⟩
end Go.Scarf
