/- A part of the proof. -/
import Derived.Test.YtpliibolgknenaaGreatDoorW1
import Derived.Test.YtpliibolgknenaaGreatDoorMore
import Derived.Lib.SmallJoins
set_option linter.all false
namespace Go.Scarf
open Go.RowKit Go.Proofs
theorem readN_lens (s : Str) : (readN s).1.whole.length ≤ s.length ∧ (readN s).1.rest.length ≤ s.length ∧ (readN s).1.exp.length ≤ s.length := by
  have h1 := cutAny_fst_len [101, 69] (Lib.trimPrefix s [45])
  have h2 := trimPrefix_len s [45]
  have h3 := cutAny_fst_len [46] (cutAny [101, 69] (Lib.trimPrefix s [45])).1
  have h4 := trimPrefix_len (cutAny [101, 69] (Lib.trimPrefix s [45])).2.1 [45]
  have h5 := trimPrefix_len (Lib.trimPrefix (cutAny [101, 69] (Lib.trimPrefix s [45])).2.1 [45]) [43]
  unfold readN
  simp only
  repeat' split
  all_goals (refine ⟨?_, ?_, ?_⟩ <;> simp only [readEnd, List.length_nil] <;> omega)
def expE (s : Str) : Int := if (readN s).1.low then - expVal (Lib.trimLeftB (readN s).1.exp 48) else expVal (Lib.trimLeftB (readN s).1.exp 48)
theorem parseN_eq (s : Str) : parseN s = if (readN s).2 = false then (Num.zero, 2) else
  if 1000 < (readN s).1.whole.length + (readN s).1.rest.length then (Num.zero, 3) else
  if 9 < (Lib.trimLeftB (readN s).1.exp 48).length then (Num.zero, 4) else
  if Lib.trimLeftB ((readN s).1.whole ++ (readN s).1.rest) 48 = [] then (Num.zero, 0) else
  if rightN (⟨(readN s).1.neg, Lib.trimRightB (Lib.trimLeftB ((readN s).1.whole ++ (readN s).1.rest) 48) 48, expE s - (readN s).1.rest.length + (Lib.trimLeftB ((readN s).1.whole ++ (readN s).1.rest) 48).length - (Lib.trimRightB (Lib.trimLeftB ((readN s).1.whole ++ (readN s).1.rest) 48) 48).length⟩) = false then (Num.zero, 4) else
  (⟨(readN s).1.neg, Lib.trimRightB (Lib.trimLeftB ((readN s).1.whole ++ (readN s).1.rest) 48) 48, expE s - (readN s).1.rest.length + (Lib.trimLeftB ((readN s).1.whole ++ (readN s).1.rest) 48).length - (Lib.trimRightB (Lib.trimLeftB ((readN s).1.whole ++ (readN s).1.rest) 48) 48).length⟩, 0) := rfl
theorem range_exp {s : Str} {q : Nat} (h : q < s.length) (ha : s.all isDig = true) : (Utf8.decode (bs s) q).1 = s[q].toNat ∧ (Utf8.decode (bs s) q).2 = 1 ∧ 48 ≤ s[q].toNat ∧ s[q].toNat ≤ 57 := by
  have hd := List.all_eq_true.1 ha s[q] (List.getElem_mem h)
  have := decode_isDig s q h hd
  rw [this]
  unfold isDig at hd
  simp only [Bool.and_eq_true, decide_eq_true_eq] at hd
  exact ⟨rfl, rfl, hd.1, hd.2⟩
theorem all_take {f : UInt8 → Bool} {s : Str} (q : Nat) (h : s.all f = true) : (s.take q).all f = true := by
  rw [List.all_eq_true] at h ⊢
  exact fun x hx => h x (List.mem_of_mem_take hx)
set_option maxHeartbeats 4000000 in
set_option maxRecDepth 10000 in
theorem parse_c (s : Str) (hl : s.length ≤ 140737488355328) (w0 : World) : Calls Tryz.prog 60 #[.string (bs s)] w0 (Ret fun v w' => v = .tuple #[numV (parseN s).1, .int .i64 (parseN s).2] ∧ Same [] w0 w') := by
 have hls := readN_lens s
 have ht0 := trimLeftB_len (readN s).1.exp 48
 have ht1 := trimLeftB_len ((readN s).1.whole ++ (readN s).1.rest) 48
 rw [List.length_append] at ht1
 have ht2 := trimRightB_len (Lib.trimLeftB ((readN s).1.whole ++ (readN s).1.rest) 48) 48
 refine calls_start Tryz.func60 rfl Tryz.ntmps60 (Nat.le_of_ble_eq_true rfl) (args_1 _) ?_
 have hF := FR.start w0 []
 refine c_seq (c_region ?_)
 refine o_alloc (cs := #[.bool false, .string (bs ([])), .int .i64 (0)]) hF Tryz.zeroValue72 rfl ?_
 clear hF; rintro b1 w hb1 hF -
 refine o_val (x_assign rfl) (o_nil (e_seq (c_seq (c_region (o_val (x_move rfl) ?_)))))
 refine o_call (read_c s hl _) (x_call1 en_83 rfl rfl) ?_
 rintro _ w ⟨rfl, hE⟩
 replace hF := hF.ext hE
 clear hE
 refine o_val (x_move rfl) (o_val (x_extract rfl rfl) (o_val (x_extract rfl rfl) ?_))
 refine o_lay (l := [.bool ((readN s).1.neg), .bool ((readN s).1.low), .string (bs ((readN s).1.whole)), .string (bs ((readN s).1.rest)), .string (bs ((readN s).1.exp))]) hF Tryz.zeroValue110 Tryz.sizeOf110 rfl (v := .agg #[.bool ((readN s).1.neg), .bool ((readN s).1.low), .string (bs ((readN s).1.whole)), .string (bs ((readN s).1.rest)), .string (bs ((readN s).1.exp))]) rfl rfl (by simp [one]) rfl ?_
 clear hF; rintro b2 w hb2 hF -
 refine o_val (x_assign rfl) (o_nil (e_seq (c_seq (c_region (o_val (v := .pointer (some ⟨b2, 4, none⟩)) (x_fieldAddrO fa_110_4 rfl) (o_val (v := .string (bs ((readN s).1.exp))) (x_load Tryz.isAgg9 rfl (hF.cell 0 rfl rfl)) ?_))))))
 refine o_call (trimLeft0_c (readN s).1.exp _) (x_call2 en_84 rfl rfl rfl) ?_
 rintro _ w ⟨rfl, hE⟩
 replace hF := hF.ext hE
 clear hE
 refine o_val (x_assign rfl) (o_nil (e_seq (c_seq (c_block (c_seq (c_region (o_val (x_move rfl) (o_val (v := .bool (!((readN s).2))) (x_not rfl) (o_val (x_assign rfl) (o_nil (e_seq ?_)))))))))))
 refine c_split (d := 21) (b := !((readN s).2)) rfl (fun hc0 => ?_) (fun hc0 => ?_)
 refine c_ift rfl (c_seq (c_region ?_))
 refine o_val (w' := w) (v := .agg #[.bool false, .string (bs ([])), .int .i64 (0)]) (by kernel_rfl) ?_
 refine o_store 1 (l := [.bool false, .string (bs ([])), .int .i64 (0)]) (cs' := #[.bool false, .string (bs ([])), .int .i64 (0)]) hF Tryz.sizeOf72 rfl (v := .agg #[.bool false, .string (bs ([])), .int .i64 (0)]) rfl rfl (by simp [one]) rfl (Nat.le_of_ble_eq_true rfl) rfl ?_
 clear hF; rintro w hF -
 replace hF : FR w0 [] [(b2, .cells #[.bool ((readN s).1.neg), .bool ((readN s).1.low), .string (bs ((readN s).1.whole)), .string (bs ((readN s).1.rest)), .string (bs ((readN s).1.exp))] 110), (b1, .cells #[.bool false, .string (bs ([])), .int .i64 (0)] 72)] w := hF
 refine o_val (x_assign rfl) (o_nil (e_seq ?_))
 refine c_ret (e_ret (post_ret (res_ct rfl (l := [.bool false, .string (bs ([])), .int .i64 (0)]) rfl Tryz.isAgg72 Tryz.sizeOf72 rfl (hF.cellsAll 1 rfl) (v := .int .i64 (2)) rfl) ?_))
 exact ⟨by rw [parseN_eq, if_pos (by simpa using hc0)]; rfl, hF.same⟩
 refine c_iff rfl (c_seq (c_region (o_val (v := .pointer (some ⟨b2, 2, none⟩)) (x_fieldAddrO fa_110_2 rfl) (o_val (v := .string (bs ((readN s).1.whole))) (x_load Tryz.isAgg9 rfl (hF.cell 0 rfl rfl)) (o_val (v := .int .i64 (((((readN s).1.whole) : Str).length : Int))) (x_len_string Tryz.underlying9 rfl) (o_val (v := .pointer (some ⟨b2, 3, none⟩)) (x_fieldAddrO fa_110_3 rfl) (o_val (v := .string (bs ((readN s).1.rest))) (x_load Tryz.isAgg9 rfl (hF.cell 0 rfl rfl)) (o_val (v := .int .i64 (((((readN s).1.rest) : Str).length : Int))) (x_len_string Tryz.underlying9 rfl) (o_val (v := .int .i64 ((((((readN s).1.whole) : Str).length : Int) : Int) + ((((readN s).1.rest) : Str).length : Int))) (x_add rfl rfl (wrap_id (by omega) (by omega))) (o_val (v := .bool (decide ((1000 : Int) < ((((((readN s).1.whole) : Str).length : Int) : Int) + ((((readN s).1.rest) : Str).length : Int) : Int)))) (x_gtr rfl rfl) (o_val (x_assign rfl) (o_nil (e_seq ?_)))))))))))))
 refine c_splitd (d := 25) (p := (1000 : Int) < ((((((readN s).1.whole) : Str).length : Int) : Int) + ((((readN s).1.rest) : Str).length : Int) : Int)) rfl (fun hc1 => ?_) (fun hc1 => ?_)
 refine c_ift rfl (c_seq (c_region ?_))
 refine o_val (w' := w) (v := .agg #[.bool false, .string (bs ([])), .int .i64 (0)]) (by kernel_rfl) ?_
 refine o_store 1 (l := [.bool false, .string (bs ([])), .int .i64 (0)]) (cs' := #[.bool false, .string (bs ([])), .int .i64 (0)]) hF Tryz.sizeOf72 rfl (v := .agg #[.bool false, .string (bs ([])), .int .i64 (0)]) rfl rfl (by simp [one]) rfl (Nat.le_of_ble_eq_true rfl) rfl ?_
 clear hF; rintro w hF -
 replace hF : FR w0 [] [(b2, .cells #[.bool ((readN s).1.neg), .bool ((readN s).1.low), .string (bs ((readN s).1.whole)), .string (bs ((readN s).1.rest)), .string (bs ((readN s).1.exp))] 110), (b1, .cells #[.bool false, .string (bs ([])), .int .i64 (0)] 72)] w := hF
 refine o_val (x_assign rfl) (o_nil (e_seq ?_))
 refine c_ret (e_ret (post_ret (res_ct rfl (l := [.bool false, .string (bs ([])), .int .i64 (0)]) rfl Tryz.isAgg72 Tryz.sizeOf72 rfl (hF.cellsAll 1 rfl) (v := .int .i64 (3)) rfl) ?_))
 exact ⟨by rw [parseN_eq, if_neg (by simpa using hc0), if_pos (by omega)]; rfl, hF.same⟩
 refine c_iff rfl (c_seq (c_region (o_val (x_move rfl) (o_val (v := .int .i64 (((((Lib.trimLeftB (readN s).1.exp 48)) : Str).length : Int))) (x_len_string Tryz.underlying9 rfl) (o_val (v := .bool (decide ((9 : Int) < (((((Lib.trimLeftB (readN s).1.exp 48)) : Str).length : Int) : Int)))) (x_gtr rfl rfl) (o_val (x_assign rfl) (o_nil (e_seq ?_))))))))
 refine c_splitd (d := 35) (p := (9 : Int) < (((((Lib.trimLeftB (readN s).1.exp 48)) : Str).length : Int) : Int)) rfl (fun hc2 => ?_) (fun hc2 => ?_)
 refine c_ift rfl (c_seq (c_region ?_))
 refine o_val (w' := w) (v := .agg #[.bool false, .string (bs ([])), .int .i64 (0)]) (by kernel_rfl) ?_
 refine o_store 1 (l := [.bool false, .string (bs ([])), .int .i64 (0)]) (cs' := #[.bool false, .string (bs ([])), .int .i64 (0)]) hF Tryz.sizeOf72 rfl (v := .agg #[.bool false, .string (bs ([])), .int .i64 (0)]) rfl rfl (by simp [one]) rfl (Nat.le_of_ble_eq_true rfl) rfl ?_
 clear hF; rintro w hF -
 replace hF : FR w0 [] [(b2, .cells #[.bool ((readN s).1.neg), .bool ((readN s).1.low), .string (bs ((readN s).1.whole)), .string (bs ((readN s).1.rest)), .string (bs ((readN s).1.exp))] 110), (b1, .cells #[.bool false, .string (bs ([])), .int .i64 (0)] 72)] w := hF
 refine o_val (x_assign rfl) (o_nil (e_seq ?_))
 refine c_ret (e_ret (post_ret (res_ct rfl (l := [.bool false, .string (bs ([])), .int .i64 (0)]) rfl Tryz.isAgg72 Tryz.sizeOf72 rfl (hF.cellsAll 1 rfl) (v := .int .i64 (4)) rfl) ?_))
 exact ⟨by rw [parseN_eq, if_neg (by simpa using hc0), if_neg (by omega), if_pos (by omega)]; rfl, hF.same⟩
 refine c_iff rfl (c_skip (e_block (e_seq (c_seq (c_region (o_val (x_assign rfl) (o_nil (e_seq (c_seq (c_seq (c_region (o_val (x_move rfl) ?_))))))))))))
 refine o_rangeS (str := (Lib.trimLeftB (readN s).1.exp 48)) hF Tryz.underlying9 rfl ?_
 clear hF; rintro b3 w hb3 hF -
 refine o_nil (e_seq (c_block ?_))
 have hall : (Lib.trimLeftB (readN s).1.exp 48).all isDig = true := all_dropWhile (readN_exp (by simp_all))
 refine c_loop (fun μ σ w => ∃ (q : Nat), μ = (Lib.trimLeftB (readN s).1.exp 48).length - q ∧ (q ≤ (Lib.trimLeftB (readN s).1.exp 48).length) ∧ AllEq σ [(2, .pointer (some ⟨b1, 0, none⟩)), (4, .pointer (some ⟨b2, 0, none⟩)), (7, .int .i64 (expVal ((Lib.trimLeftB (readN s).1.exp 48).take q))), (41, .pointer (some ⟨b3, 0, none⟩))] ∧ FR w0 [] [(b3, .stringIter (bs ((Lib.trimLeftB (readN s).1.exp 48))) (q)), (b2, .cells #[.bool ((readN s).1.neg), .bool ((readN s).1.low), .string (bs ((readN s).1.whole)), .string (bs ((readN s).1.rest)), .string (bs ((readN s).1.exp))] 110), (b1, .cells #[.bool false, .string (bs ([])), .int .i64 (0)] 72)] w) _ ⟨0, rfl, (Nat.zero_le _), ⟨rfl, rfl, rfl, rfl, trivial⟩, hF⟩ ?_
 clear hF; rintro μ σ w ⟨q, rfl, hq, hs, hF⟩
 refine Cg.slots hs ?_
 clear hs; intro σ
 refine c_seq (c_region ?_)
 by_cases hn0 : (q) < ((Lib.trimLeftB (readN s).1.exp 48) : Str).length
 refine o_nextS 0 (p := q) (str := (Lib.trimLeftB (readN s).1.exp 48)) hF rfl rfl hn0 ?_
 clear hF; rintro w hF -
 replace hF : FR w0 [] [(b3, .stringIter (bs ((Lib.trimLeftB (readN s).1.exp 48))) (q + (Utf8.decode (bs ((Lib.trimLeftB (readN s).1.exp 48))) (q)).2)), (b2, .cells #[.bool ((readN s).1.neg), .bool ((readN s).1.low), .string (bs ((readN s).1.whole)), .string (bs ((readN s).1.rest)), .string (bs ((readN s).1.exp))] 110), (b1, .cells #[.bool false, .string (bs ([])), .int .i64 (0)] 72)] w := hF
 refine o_val (x_extract rfl rfl) (o_nil (e_seq (c_seq (c_ift rfl (c_skip (e_seq (c_block (c_seq (c_region (o_val (x_extract rfl rfl) (o_val (x_assign rfl) (o_nil (e_seq ?_)))))))))))))
 refine c_region (o_val (x_move rfl) ?_)
 have hv := range_exp (s := (Lib.trimLeftB (readN s).1.exp 48)) (q := q) (by omega) hall
 have hb := expVal_lt ((Lib.trimLeftB (readN s).1.exp 48).take q) (all_take q hall) (by rw [List.length_take]; omega)
 refine o_val (v := .int .i64 (10 * expVal ((Lib.trimLeftB (readN s).1.exp 48).take q))) (x_mul rfl rfl (wrap_to (by omega) (by omega) (by omega))) (o_val (x_move rfl) ?_)
 refine o_val (v := .int .i32 (((Utf8.decode (bs (Lib.trimLeftB (readN s).1.exp 48)) q).1 : Int) - 48)) (x_sub rfl rfl (by rw [IntKind.wrap_i32]; omega)) ?_
 refine o_val (v := .int .i64 (((Utf8.decode (bs (Lib.trimLeftB (readN s).1.exp 48)) q).1 : Int) - 48)) (x_conv_int Tryz.underlying21 Tryz.underlying3 rfl (wrap_id (by omega) (by omega))) ?_
 refine o_val (v := .int .i64 (expVal ((Lib.trimLeftB (readN s).1.exp 48).take (q + 1)))) (x_add rfl rfl (by rw [expVal_take _ q (by omega), hv.1]; exact wrap_id (by omega) (by omega))) ?_
 refine o_val (x_assign rfl) (o_nil (e_block ?_))
 rw [hv.2.1] at hF
 refine e_inv ⟨_, ?_, q + 1, rfl, (by omega), ⟨rfl, rfl, rfl, rfl, trivial⟩, hF⟩
 omega
 refine o_nextSend 0 (p := q) (str := (Lib.trimLeftB (readN s).1.exp 48)) hF rfl rfl hn0 ?_
 refine o_val (x_extract rfl rfl) (o_nil (e_seq (c_seq (c_iff rfl ?_))))
 refine c_exit (e_exit rfl ?_)
 refine e_seq ?_
 have eT : (Lib.trimLeftB (readN s).1.exp 48).take q = (Lib.trimLeftB (readN s).1.exp 48) := List.take_of_length_le (by omega)
 have hb := expVal_lt (Lib.trimLeftB (readN s).1.exp 48) hall (by omega)
 have hE : -1000000000 < expE s ∧ expE s < 1000000000 := by unfold expE; split <;> omega
 refine c_seq ?_
 refine c_join (fun σ w => AllEq σ [(2, .pointer (some ⟨b1, 0, none⟩)), (4, .pointer (some ⟨b2, 0, none⟩)), (7, .int .i64 (expE s))] ∧ FR w0 [] [(b3, .stringIter (bs ((Lib.trimLeftB (readN s).1.exp 48))) (q)), (b2, .cells #[.bool ((readN s).1.neg), .bool ((readN s).1.low), .string (bs ((readN s).1.whole)), .string (bs ((readN s).1.rest)), .string (bs ((readN s).1.exp))] 110), (b1, .cells #[.bool false, .string (bs ([])), .int .i64 (0)] 72)] w) ?_ ?_
 refine c_seq (c_region (o_val (v := .pointer (some ⟨b2, 1, none⟩)) (x_fieldAddrO fa_110_1 rfl) (o_val (v := .bool ((readN s).1.low)) (x_load Tryz.isAgg4 rfl (hF.cell 1 rfl rfl)) (o_nil (e_seq ?_)))))
 refine c_split (d := 52) (b := (readN s).1.low) rfl (fun hc4 => ?_) (fun hc4 => ?_)
 have eE : expE s = - expVal (Lib.trimLeftB (readN s).1.exp 48) := by unfold expE; rw [if_pos (by assumption)]
 refine c_ift rfl (c_region (o_val (x_move rfl) ?_))
 refine o_val (v := .int .i64 (expE s)) (x_neg rfl (by rw [eT, eE]; exact wrap_to (by omega) (by omega) (by omega))) ?_
 refine o_val (x_assign rfl) (o_nil ?_)
 exact e_inv ⟨⟨rfl, rfl, rfl, trivial⟩, hF⟩
 have eE : expE s = expVal (Lib.trimLeftB (readN s).1.exp 48) := by unfold expE; rw [if_neg (by simp_all)]
 rw [eT, ← eE]
 refine c_iff rfl (c_skip ?_)
 exact e_inv ⟨⟨rfl, rfl, rfl, trivial⟩, hF⟩
 clear hF; rintro σ w ⟨hs, hF⟩
 refine Eg.slots hs ?_
 clear hs; intro σ
 refine e_seq (c_seq (c_region (o_val (v := .pointer (some ⟨b2, 2, none⟩)) (x_fieldAddrO fa_110_2 rfl) (o_val (v := .string (bs ((readN s).1.whole))) (x_load Tryz.isAgg9 rfl (hF.cell 1 rfl rfl)) (o_val (v := .pointer (some ⟨b2, 3, none⟩)) (x_fieldAddrO fa_110_3 rfl) (o_val (v := .string (bs ((readN s).1.rest))) (x_load Tryz.isAgg9 rfl (hF.cell 1 rfl rfl)) (o_val (v := .string (bs (((readN s).1.whole) ++ ((readN s).1.rest)))) (x_cat rfl rfl (by omega)) ?_)))))))
 refine o_call (trimLeft0_c ((readN s).1.whole ++ (readN s).1.rest) _) (x_call2 en_84 rfl rfl rfl) ?_
 rintro _ w ⟨rfl, hE⟩
 replace hF := hF.ext hE
 clear hE
 refine o_val (x_assign rfl) (o_nil (e_seq (c_seq (c_seq (c_region (o_val (x_move rfl) (o_val (v := .bool (decide (((Lib.trimLeftB ((readN s).1.whole ++ (readN s).1.rest) 48) : Str) = []))) (x_eqls rfl rfl) (o_nil (e_seq ?_)))))))))
 refine c_splitd (d := 62) (p := ((Lib.trimLeftB ((readN s).1.whole ++ (readN s).1.rest) 48) : Str) = []) rfl (fun hc5 => ?_) (fun hc5 => ?_)
 refine c_ift rfl (c_seq (c_region ?_))
 refine o_val (w' := w) (v := .agg #[.bool false, .string (bs ([])), .int .i64 (0)]) (by kernel_rfl) ?_
 refine o_store 2 (l := [.bool false, .string (bs ([])), .int .i64 (0)]) (cs' := #[.bool false, .string (bs ([])), .int .i64 (0)]) hF Tryz.sizeOf72 rfl (v := .agg #[.bool false, .string (bs ([])), .int .i64 (0)]) rfl rfl (by simp [one]) rfl (Nat.le_of_ble_eq_true rfl) rfl ?_
 clear hF; rintro w hF -
 replace hF : FR w0 [] [(b3, .stringIter (bs ((Lib.trimLeftB (readN s).1.exp 48))) (q)), (b2, .cells #[.bool ((readN s).1.neg), .bool ((readN s).1.low), .string (bs ((readN s).1.whole)), .string (bs ((readN s).1.rest)), .string (bs ((readN s).1.exp))] 110), (b1, .cells #[.bool false, .string (bs ([])), .int .i64 (0)] 72)] w := hF
 refine o_val (x_assign rfl) (o_nil (e_seq ?_))
 refine c_ret (e_ret (post_ret (res_ct rfl (l := [.bool false, .string (bs ([])), .int .i64 (0)]) rfl Tryz.isAgg72 Tryz.sizeOf72 rfl (hF.cellsAll 2 rfl) (v := .int .i64 (0)) rfl) ?_))
 exact ⟨by rw [parseN_eq, if_neg (by simpa using hc0), if_neg (by omega), if_neg (by omega), if_pos hc5]; rfl, hF.same⟩
 refine c_iff rfl (c_skip (e_seq (c_seq (c_region (o_val (x_move rfl) ?_)))))
 refine o_call (trimRight0_c (Lib.trimLeftB ((readN s).1.whole ++ (readN s).1.rest) 48) _ (by omega)) (x_call2 en_85 rfl rfl rfl) ?_
 rintro _ w ⟨rfl, hE⟩
 replace hF := hF.ext hE
 clear hE
 refine o_val (x_assign rfl) (o_nil (e_seq (c_seq (c_region (o_val (v := .pointer (some ⟨b2, 0, none⟩)) (x_fieldAddrO fa_110_0 rfl) (o_val (v := .bool ((readN s).1.neg)) (x_load Tryz.isAgg4 rfl (hF.cell 1 rfl rfl)) (o_val (x_move rfl) (o_val (x_move rfl) (o_val (v := .pointer (some ⟨b2, 3, none⟩)) (x_fieldAddrO fa_110_3 rfl) (o_val (v := .string (bs ((readN s).1.rest))) (x_load Tryz.isAgg9 rfl (hF.cell 1 rfl rfl)) (o_val (v := .int .i64 (((((readN s).1.rest) : Str).length : Int))) (x_len_string Tryz.underlying9 rfl) (o_val (v := .int .i64 ((expE s : Int) - ((((readN s).1.rest) : Str).length : Int))) (x_sub rfl rfl (wrap_id (by omega) (by omega))) (o_val (x_move rfl) ?_)))))))))))))
 refine o_val (v := .int .i64 (((((Lib.trimLeftB ((readN s).1.whole ++ (readN s).1.rest) 48)) : Str).length : Int))) (x_len_string Tryz.underlying9 rfl) (o_val (v := .int .i64 (((expE s : Int) - ((((readN s).1.rest) : Str).length : Int) : Int) + ((((Lib.trimLeftB ((readN s).1.whole ++ (readN s).1.rest) 48)) : Str).length : Int))) (x_add rfl rfl (wrap_id (by omega) (by omega))) (o_val (x_move rfl) (o_val (v := .int .i64 (((((Lib.trimRightB (Lib.trimLeftB ((readN s).1.whole ++ (readN s).1.rest) 48) 48)) : Str).length : Int))) (x_len_string Tryz.underlying9 rfl) (o_val (v := .int .i64 ((((expE s : Int) - ((((readN s).1.rest) : Str).length : Int) : Int) + ((((Lib.trimLeftB ((readN s).1.whole ++ (readN s).1.rest) 48)) : Str).length : Int) : Int) - ((((Lib.trimRightB (Lib.trimLeftB ((readN s).1.whole ++ (readN s).1.rest) 48) 48)) : Str).length : Int))) (x_sub rfl rfl (wrap_id (by omega) (by omega))) ?_))))
 refine o_val (w' := w) (v := .agg #[.bool ((readN s).1.neg), .string (bs ((Lib.trimRightB (Lib.trimLeftB ((readN s).1.whole ++ (readN s).1.rest) 48) 48))), .int .i64 ((((expE s : Int) - ((((readN s).1.rest) : Str).length : Int) : Int) + ((((Lib.trimLeftB ((readN s).1.whole ++ (readN s).1.rest) 48)) : Str).length : Int) : Int) - ((((Lib.trimRightB (Lib.trimLeftB ((readN s).1.whole ++ (readN s).1.rest) 48) 48)) : Str).length : Int))]) (by kernel_rfl) ?_
 refine o_lay (l := [.bool ((readN s).1.neg), .string (bs ((Lib.trimRightB (Lib.trimLeftB ((readN s).1.whole ++ (readN s).1.rest) 48) 48))), .int .i64 ((((expE s : Int) - ((((readN s).1.rest) : Str).length : Int) : Int) + ((((Lib.trimLeftB ((readN s).1.whole ++ (readN s).1.rest) 48)) : Str).length : Int) : Int) - ((((Lib.trimRightB (Lib.trimLeftB ((readN s).1.whole ++ (readN s).1.rest) 48) 48)) : Str).length : Int))]) hF Tryz.zeroValue72 Tryz.sizeOf72 rfl (v := .agg #[.bool ((readN s).1.neg), .string (bs ((Lib.trimRightB (Lib.trimLeftB ((readN s).1.whole ++ (readN s).1.rest) 48) 48))), .int .i64 ((((expE s : Int) - ((((readN s).1.rest) : Str).length : Int) : Int) + ((((Lib.trimLeftB ((readN s).1.whole ++ (readN s).1.rest) 48)) : Str).length : Int) : Int) - ((((Lib.trimRightB (Lib.trimLeftB ((readN s).1.whole ++ (readN s).1.rest) 48) 48)) : Str).length : Int))]) rfl rfl (by simp [one]) rfl ?_
 clear hF; rintro b4 w hb4 hF -
 refine o_nil (e_seq (c_seq (c_seq (c_region (o_val (v := .agg #[.bool ((readN s).1.neg), .string (bs ((Lib.trimRightB (Lib.trimLeftB ((readN s).1.whole ++ (readN s).1.rest) 48) 48))), .int .i64 ((((expE s : Int) - ((((readN s).1.rest) : Str).length : Int) : Int) + ((((Lib.trimLeftB ((readN s).1.whole ++ (readN s).1.rest) 48)) : Str).length : Int) : Int) - ((((Lib.trimRightB (Lib.trimLeftB ((readN s).1.whole ++ (readN s).1.rest) 48) 48)) : Str).length : Int))]) (x_loadS (l := [.bool ((readN s).1.neg), .string (bs ((Lib.trimRightB (Lib.trimLeftB ((readN s).1.whole ++ (readN s).1.rest) 48) 48))), .int .i64 ((((expE s : Int) - ((((readN s).1.rest) : Str).length : Int) : Int) + ((((Lib.trimLeftB ((readN s).1.whole ++ (readN s).1.rest) 48)) : Str).length : Int) : Int) - ((((Lib.trimRightB (Lib.trimLeftB ((readN s).1.whole ++ (readN s).1.rest) 48) 48)) : Str).length : Int))]) Tryz.isAgg72 Tryz.sizeOf72 rfl rfl (hF.cellsAll 0 rfl)) ?_)))))
 refine o_call (right_c (⟨(readN s).1.neg, (Lib.trimRightB (Lib.trimLeftB ((readN s).1.whole ++ (readN s).1.rest) 48) 48), expE s - (readN s).1.rest.length + (Lib.trimLeftB ((readN s).1.whole ++ (readN s).1.rest) 48).length - (Lib.trimRightB (Lib.trimLeftB ((readN s).1.whole ++ (readN s).1.rest) 48) 48).length⟩) (by show (Lib.trimRightB (Lib.trimLeftB ((readN s).1.whole ++ (readN s).1.rest) 48) 48).length ≤ _; omega) _) (x_call1 en_58 rfl rfl) ?_
 rintro _ w ⟨rfl, hE⟩
 replace hF := hF.ext hE
 clear hE
 refine o_val (v := .bool (!(rightN (⟨(readN s).1.neg, (Lib.trimRightB (Lib.trimLeftB ((readN s).1.whole ++ (readN s).1.rest) 48) 48), expE s - (readN s).1.rest.length + (Lib.trimLeftB ((readN s).1.whole ++ (readN s).1.rest) 48).length - (Lib.trimRightB (Lib.trimLeftB ((readN s).1.whole ++ (readN s).1.rest) 48) 48).length⟩)))) (x_not rfl) (o_nil (e_seq ?_))
 refine c_split (d := 83) (b := !(rightN (⟨(readN s).1.neg, (Lib.trimRightB (Lib.trimLeftB ((readN s).1.whole ++ (readN s).1.rest) 48) 48), expE s - (readN s).1.rest.length + (Lib.trimLeftB ((readN s).1.whole ++ (readN s).1.rest) 48).length - (Lib.trimRightB (Lib.trimLeftB ((readN s).1.whole ++ (readN s).1.rest) 48) 48).length⟩))) rfl (fun hc6 => ?_) (fun hc6 => ?_)
 refine c_ift rfl (c_seq (c_region ?_))
 refine o_val (w' := w) (v := .agg #[.bool false, .string (bs ([])), .int .i64 (0)]) (by kernel_rfl) ?_
 refine o_store 3 (l := [.bool false, .string (bs ([])), .int .i64 (0)]) (cs' := #[.bool false, .string (bs ([])), .int .i64 (0)]) hF Tryz.sizeOf72 rfl (v := .agg #[.bool false, .string (bs ([])), .int .i64 (0)]) rfl rfl (by simp [one]) rfl (Nat.le_of_ble_eq_true rfl) rfl ?_
 clear hF; rintro w hF -
 replace hF : FR w0 [] [(b4, .cells #[.bool ((readN s).1.neg), .string (bs ((Lib.trimRightB (Lib.trimLeftB ((readN s).1.whole ++ (readN s).1.rest) 48) 48))), .int .i64 ((((expE s : Int) - ((((readN s).1.rest) : Str).length : Int) : Int) + ((((Lib.trimLeftB ((readN s).1.whole ++ (readN s).1.rest) 48)) : Str).length : Int) : Int) - ((((Lib.trimRightB (Lib.trimLeftB ((readN s).1.whole ++ (readN s).1.rest) 48) 48)) : Str).length : Int))] 72), (b3, .stringIter (bs ((Lib.trimLeftB (readN s).1.exp 48))) (q)), (b2, .cells #[.bool ((readN s).1.neg), .bool ((readN s).1.low), .string (bs ((readN s).1.whole)), .string (bs ((readN s).1.rest)), .string (bs ((readN s).1.exp))] 110), (b1, .cells #[.bool false, .string (bs ([])), .int .i64 (0)] 72)] w := hF
 refine o_val (x_assign rfl) (o_nil (e_seq ?_))
 refine c_ret (e_ret (post_ret (res_ct rfl (l := [.bool false, .string (bs ([])), .int .i64 (0)]) rfl Tryz.isAgg72 Tryz.sizeOf72 rfl (hF.cellsAll 3 rfl) (v := .int .i64 (4)) rfl) ?_))
 exact ⟨by rw [parseN_eq, if_neg (by simpa using hc0), if_neg (by omega), if_neg (by omega), if_neg hc5, if_pos (by simpa using hc6)]; rfl, hF.same⟩
 refine c_iff rfl (c_skip (e_seq (c_seq (c_region (o_val (v := .agg #[.bool ((readN s).1.neg), .string (bs ((Lib.trimRightB (Lib.trimLeftB ((readN s).1.whole ++ (readN s).1.rest) 48) 48))), .int .i64 ((((expE s : Int) - ((((readN s).1.rest) : Str).length : Int) : Int) + ((((Lib.trimLeftB ((readN s).1.whole ++ (readN s).1.rest) 48)) : Str).length : Int) : Int) - ((((Lib.trimRightB (Lib.trimLeftB ((readN s).1.whole ++ (readN s).1.rest) 48) 48)) : Str).length : Int))]) (x_loadS (l := [.bool ((readN s).1.neg), .string (bs ((Lib.trimRightB (Lib.trimLeftB ((readN s).1.whole ++ (readN s).1.rest) 48) 48))), .int .i64 ((((expE s : Int) - ((((readN s).1.rest) : Str).length : Int) : Int) + ((((Lib.trimLeftB ((readN s).1.whole ++ (readN s).1.rest) 48)) : Str).length : Int) : Int) - ((((Lib.trimRightB (Lib.trimLeftB ((readN s).1.whole ++ (readN s).1.rest) 48) 48)) : Str).length : Int))]) Tryz.isAgg72 Tryz.sizeOf72 rfl rfl (hF.cellsAll 0 rfl)) ?_)))))
 refine o_store 3 (l := [.bool ((readN s).1.neg), .string (bs ((Lib.trimRightB (Lib.trimLeftB ((readN s).1.whole ++ (readN s).1.rest) 48) 48))), .int .i64 ((((expE s : Int) - ((((readN s).1.rest) : Str).length : Int) : Int) + ((((Lib.trimLeftB ((readN s).1.whole ++ (readN s).1.rest) 48)) : Str).length : Int) : Int) - ((((Lib.trimRightB (Lib.trimLeftB ((readN s).1.whole ++ (readN s).1.rest) 48) 48)) : Str).length : Int))]) (cs' := #[.bool ((readN s).1.neg), .string (bs ((Lib.trimRightB (Lib.trimLeftB ((readN s).1.whole ++ (readN s).1.rest) 48) 48))), .int .i64 ((((expE s : Int) - ((((readN s).1.rest) : Str).length : Int) : Int) + ((((Lib.trimLeftB ((readN s).1.whole ++ (readN s).1.rest) 48)) : Str).length : Int) : Int) - ((((Lib.trimRightB (Lib.trimLeftB ((readN s).1.whole ++ (readN s).1.rest) 48) 48)) : Str).length : Int))]) hF Tryz.sizeOf72 rfl (v := .agg #[.bool ((readN s).1.neg), .string (bs ((Lib.trimRightB (Lib.trimLeftB ((readN s).1.whole ++ (readN s).1.rest) 48) 48))), .int .i64 ((((expE s : Int) - ((((readN s).1.rest) : Str).length : Int) : Int) + ((((Lib.trimLeftB ((readN s).1.whole ++ (readN s).1.rest) 48)) : Str).length : Int) : Int) - ((((Lib.trimRightB (Lib.trimLeftB ((readN s).1.whole ++ (readN s).1.rest) 48) 48)) : Str).length : Int))]) rfl rfl (by simp [one]) rfl (Nat.le_of_ble_eq_true rfl) rfl ?_
 clear hF; rintro w hF -
 replace hF : FR w0 [] [(b4, .cells #[.bool ((readN s).1.neg), .string (bs ((Lib.trimRightB (Lib.trimLeftB ((readN s).1.whole ++ (readN s).1.rest) 48) 48))), .int .i64 ((((expE s : Int) - ((((readN s).1.rest) : Str).length : Int) : Int) + ((((Lib.trimLeftB ((readN s).1.whole ++ (readN s).1.rest) 48)) : Str).length : Int) : Int) - ((((Lib.trimRightB (Lib.trimLeftB ((readN s).1.whole ++ (readN s).1.rest) 48) 48)) : Str).length : Int))] 72), (b3, .stringIter (bs ((Lib.trimLeftB (readN s).1.exp 48))) (q)), (b2, .cells #[.bool ((readN s).1.neg), .bool ((readN s).1.low), .string (bs ((readN s).1.whole)), .string (bs ((readN s).1.rest)), .string (bs ((readN s).1.exp))] 110), (b1, .cells #[.bool ((readN s).1.neg), .string (bs ((Lib.trimRightB (Lib.trimLeftB ((readN s).1.whole ++ (readN s).1.rest) 48) 48))), .int .i64 ((((expE s : Int) - ((((readN s).1.rest) : Str).length : Int) : Int) + ((((Lib.trimLeftB ((readN s).1.whole ++ (readN s).1.rest) 48)) : Str).length : Int) : Int) - ((((Lib.trimRightB (Lib.trimLeftB ((readN s).1.whole ++ (readN s).1.rest) 48) 48)) : Str).length : Int))] 72)] w := hF
 refine o_val (x_assign rfl) (o_nil (e_seq ?_))
 refine c_ret (e_ret (post_ret (res_ct rfl (l := [.bool ((readN s).1.neg), .string (bs ((Lib.trimRightB (Lib.trimLeftB ((readN s).1.whole ++ (readN s).1.rest) 48) 48))), .int .i64 ((((expE s : Int) - ((((readN s).1.rest) : Str).length : Int) : Int) + ((((Lib.trimLeftB ((readN s).1.whole ++ (readN s).1.rest) 48)) : Str).length : Int) : Int) - ((((Lib.trimRightB (Lib.trimLeftB ((readN s).1.whole ++ (readN s).1.rest) 48) 48)) : Str).length : Int))]) rfl Tryz.isAgg72 Tryz.sizeOf72 rfl (hF.cellsAll 3 rfl) (v := .int .i64 (0)) rfl) ?_))
 exact ⟨by rw [parseN_eq, if_neg (by simpa using hc0), if_neg (by omega), if_neg (by omega), if_neg hc5, if_neg (by simpa using hc6)]; rfl, hF.same⟩
end Go.Scarf
namespace Go.Scarf
open Go.RowKit Go.Proofs
def ofN (n : Int) : Num := (parseN (Lib.itoa n)).1
def pI (s : Str) : Int × Bool := match Lib.parseIntB 64 s with | .ok v => (v, true) | .range => (Lib.intSat 64 s, false) | _ => (0, false)
def intN (x : Num) : Int × Bool :=
  if rightN x = false ∨ x.exp < 0 ∨ 19 < (x.digits.length : Int) + x.exp then (0, false) else
  let t := x.digits ++ Lib.repeatL [48] x.exp.toNat
  let u := if x.neg then 45 :: t else t
  if u = [] then (0, true) else if (pI u).2 = false then (0, false) else ((pI u).1, true)
def ErrIs (e : Value) (b : Bool) : Prop := if b then ∃ tp q, e = .iface tp q else e = .nilIface
theorem x_err_neq {P : Program} {ρ : Operand → Value} {w : World} {dst : Option Nat} {ty : TypeId} {pos : String} {aft : Array Edge} {g : Option (Nat × Bool)} {t t' : TypeId} {x : Operand} {e : Value} {b : Bool} (ht : P.underlying t = some (.interface (P.methodsAt t))) (he : ErrIs e b) (hx : ρ x = e) (hy : ρ (.const .nilIface) = .nilIface) :
    (execOp ρ ⟨dst, .binOp .neq t x (.const .nilIface) t', ty, pos, aft, g⟩).run P w = .ok (.value (.bool b)) w := by
  unfold ErrIs at he
  cases b
  · simp only [Bool.false_eq_true, if_false] at he; subst he; exact x_nil_neq ht hx hy
  · simp only [if_true] at he; obtain ⟨tp, q, rfl⟩ := he; exact x_iface_neq ht hx hy
theorem same_bytesWorld (w : World) (e : TypeId) (s : ByteArray) : Same [] w (Lib.bytesWorld w e s) :=
  .of_below (Joins.below_bytesWorld _ w e s (Nat.le_refl _))
theorem parseInt_c (s : Str) (hl : s.length ≤ 140737488355328) {w : World} (hG : Gl w) : Calls Tryz.prog 113 #[.string (bs s), .int .i64 10, .int .i64 64] w (Ret fun v w' => ∃ e, v = .tuple #[.int .i64 (pI s).1, e] ∧ ErrIs e (!(pI s).2) ∧ Same [] w w') := by
  cases h : Lib.parseIntB 64 s with
  | ok n =>
    refine (Tryz.strconv_ParseInt_10_at64_ok (bs s) (by rw [bs_size]; omega) n h w).mono ?_
    rintro e w' ⟨rfl, hw⟩
    refine ⟨_, rfl, .nilIface, by simp [pI, h], by simp [pI, h, ErrIs], ?_⟩
    rcases hw with rfl | ⟨t, rfl⟩
    · exact Same.refl _ _
    · exact same_bytesWorld w 5 t
  | range =>
    obtain ⟨tp, q, hv⟩ := hG.err
    refine (Tryz.strconv_ParseInt_10_at64_range_var (bs s) (by rw [bs_size]; omega) h tp q w hv).mono ?_
    rintro e w' ⟨N, rfl, -, -, hb⟩
    exact ⟨_, rfl, .iface 216 (.pointer (some ⟨N, 0, none⟩)), by simp only [pI, h], by simp [pI, h, ErrIs], .of_below hb⟩
  | _ =>
    obtain ⟨tp, q, hv⟩ := hG.serr
    refine (Any.strconv_ParseInt_10_at64_syntax_var Tryz.laysC174 (bs s) (by rw [bs_size]; omega) h tp q w hv).mono ?_
    rintro e w' ⟨N, rfl, -, -, hb⟩
    exact ⟨_, rfl, .iface 216 (.pointer (some ⟨N, 0, none⟩)), (by simp [pI, h]; rfl), by simp [pI, h, ErrIs], .of_below hb⟩
theorem repeat0_c (c : Int) (h0 : 0 ≤ c) (h1 : c ≤ 19) (w : World) : Calls Tryz.prog 112 #[.string (bs [48]), .int .i64 c] w (Ret fun v w' => v = .string (bs (Lib.repeatL [48] c.toNat)) ∧ Same [] w w') := by
  have h := Tryz.strings_Repeat (bs [48]) c.toNat w (by omega) (by rw [bs_size]; simp; omega)
  rw [Int.toNat_of_nonneg h0] at h
  exact ret_below h
set_option maxHeartbeats 1000000 in
set_option maxRecDepth 10000 in
theorem numOf_c (n : Int) (h1 : -9223372036854775808 ≤ n) (h2 : n ≤ 9223372036854775807) (w0 : World) (hG : Gl w0) : Calls Tryz.prog 38 #[.int .i64 n] w0 (Ret fun v w' => v = numV (ofN n) ∧ Same [] w0 w') := by
 refine calls_start Tryz.func38 rfl Tryz.ntmps38 (Nat.le_of_ble_eq_true rfl) (args_1 _) ?_
 have hF := FR.start w0 []
 refine c_seq (c_region ?_)
 refine o_alloc (cs := #[.bool false, .string (bs ([])), .int .i64 (0)]) hF Tryz.zeroValue72 rfl ?_
 clear hF; rintro b1 w hb1 hF -
 refine o_nil (e_seq (c_seq (c_region (o_val (x_move rfl) ?_))))
 refine o_call (itoa_c n h1 h2 (hG.ext hF.same)) (x_call1 en_59 rfl rfl) ?_
 rintro _ w ⟨rfl, hE⟩
 replace hF := hF.ext hE
 clear hE
 refine o_call (parse_c (Lib.itoa n) (by have := Lib.itoa_length_le n h1 h2; omega) _) (x_call1 en_60 rfl rfl) ?_
 rintro _ w ⟨rfl, hE⟩
 replace hF := hF.ext hE
 clear hE
 refine o_val (x_move rfl) (o_val (x_extract rfl rfl) (o_val (x_extract rfl rfl) ?_))
 refine o_lay (l := [.bool ((ofN n).neg), .string (bs ((ofN n).digits)), .int .i64 ((ofN n).exp)]) hF Tryz.zeroValue72 Tryz.sizeOf72 rfl (v := .agg #[.bool ((ofN n).neg), .string (bs ((ofN n).digits)), .int .i64 ((ofN n).exp)]) rfl rfl (by simp [one]) rfl ?_
 clear hF; rintro b2 w hb2 hF -
 refine o_val (x_assign rfl) (o_nil (e_seq (c_seq (c_region (o_val (v := .agg #[.bool ((ofN n).neg), .string (bs ((ofN n).digits)), .int .i64 ((ofN n).exp)]) (x_loadS (l := [.bool ((ofN n).neg), .string (bs ((ofN n).digits)), .int .i64 ((ofN n).exp)]) Tryz.isAgg72 Tryz.sizeOf72 rfl rfl (hF.cellsAll 0 rfl)) ?_)))))
 refine o_store 1 (l := [.bool ((ofN n).neg), .string (bs ((ofN n).digits)), .int .i64 ((ofN n).exp)]) (cs' := #[.bool ((ofN n).neg), .string (bs ((ofN n).digits)), .int .i64 ((ofN n).exp)]) hF Tryz.sizeOf72 rfl (v := .agg #[.bool ((ofN n).neg), .string (bs ((ofN n).digits)), .int .i64 ((ofN n).exp)]) rfl rfl (by simp [one]) rfl (Nat.le_of_ble_eq_true rfl) rfl ?_
 clear hF; rintro w hF -
 replace hF : FR w0 [] [(b2, .cells #[.bool ((ofN n).neg), .string (bs ((ofN n).digits)), .int .i64 ((ofN n).exp)] 72), (b1, .cells #[.bool ((ofN n).neg), .string (bs ((ofN n).digits)), .int .i64 ((ofN n).exp)] 72)] w := hF
 refine o_nil (e_seq ?_)
 refine c_ret (e_ret (post_ret (res_c rfl (l := [.bool ((ofN n).neg), .string (bs ((ofN n).digits)), .int .i64 ((ofN n).exp)]) rfl Tryz.isAgg72 Tryz.sizeOf72 rfl (hF.cellsAll 1 rfl)) ?_))
 exact ⟨rfl, hF.same⟩
def intT (x : Num) : Str := if x.neg then 45 :: (x.digits ++ Lib.repeatL [48] x.exp.toNat) else x.digits ++ Lib.repeatL [48] x.exp.toNat
theorem intN_eq (x : Num) : intN x = if rightN x = false ∨ x.exp < 0 ∨ 19 < (x.digits.length : Int) + x.exp then (0, false) else if intT x = [] then (0, true) else if (pI (intT x)).2 = false then (0, false) else ((pI (intT x)).1, true) := rfl
theorem repeatL_len (c : UInt8) (n : Nat) : (Lib.repeatL [c] n).length = n := by
  induction n with
  | zero => rfl
  | succ n ih => unfold Lib.repeatL; simp [ih]; try omega
set_option maxHeartbeats 1000000 in
set_option maxRecDepth 10000 in
theorem numInt_c (x : Num) (hl : x.digits.length ≤ 140737488355328) (w0 : World) (hG : Gl w0) : Calls Tryz.prog 88 #[numV x] w0 (Ret fun v w' => v = .tuple #[.int .i64 (intN x).1, .bool (intN x).2] ∧ Same [] w0 w') := by
  refine calls_start Tryz.func88 rfl Tryz.ntmps88 (Nat.le_of_ble_eq_true rfl) (args_1 _) ?_
  have hF := FR.start w0 []
  refine c_seq ?_
  refine c_region ?_
  refine o_box (v := .agg #[.bool (x.neg), .string (bs (x.digits)), .int .i64 (x.exp)]) (cs := #[.bool (x.neg), .string (bs (x.digits)), .int .i64 (x.exp)]) hF rfl rfl ?_
  clear hF; intro b1 w hb1 hF hE
  clear hE
  refine o_val (x_assign rfl) ?_
  refine o_val (x_assign rfl) ?_
  refine o_nil ?_
  refine e_seq ?_
  refine c_seq ?_
  refine c_seq ?_
  refine c_region ?_
  refine o_val (v := .agg #[.bool (x.neg), .string (bs (x.digits)), .int .i64 (x.exp)]) (x_loadS (l := [.bool (x.neg), .string (bs (x.digits)), .int .i64 (x.exp)]) Tryz.isAgg72 Tryz.sizeOf72 rfl rfl (hF.cellsAll 0 rfl)) ?_
  refine o_call (right_c x hl _) (x_call1 en_58 rfl rfl) ?_
  rintro _ w ⟨rfl, hE⟩
  replace hF := hF.ext hE
  clear hE
  refine o_val (v := .bool (!(rightN x))) (x_not rfl) ?_
  refine o_val (x_move rfl) ?_
  refine o_split (d := 10) (b := !(rightN x)) rfl (fun hg0 => ?_) (fun hg0 => ?_)
  ·
    refine o_off ?_
    refine o_off ?_
    refine o_off ?_
    refine o_val (x_pickt rfl rfl) ?_
    refine o_val (x_move rfl) ?_
    refine o_off ?_
    refine o_off ?_
    refine o_off ?_
    refine o_off ?_
    refine o_off ?_
    refine o_off ?_
    refine o_off ?_
    refine o_val (x_pickt rfl rfl) ?_
    refine o_nil ?_
    refine e_seq ?_
    refine c_ift rfl ?_
    refine c_seq ?_
    refine c_region ?_
    refine o_val (x_assign rfl) ?_
    refine o_val (x_assign rfl) ?_
    refine o_nil ?_
    refine e_seq ?_
    refine c_ret (e_ret (post_ret (res_2 (v := .int .i64 (0)) (x := .bool false) rfl rfl rfl) ?_))
    refine ⟨?_, hF.same⟩
    first
    | (have hn : ¬ (rightN x = false ∨ x.exp < 0 ∨ 19 < (x.digits.length : Int) + x.exp) := by (refine not_or.2 ⟨by simp_all, not_or.2 ⟨by omega, by omega⟩⟩)
       rw [intN_eq, if_neg hn]
       simp_all; done)
    | (rw [intN_eq]; simp_all; done)
  ·
    refine o_val (v := .pointer (some ⟨b1, 2, none⟩)) (x_fieldAddrO fa_72_2 rfl) ?_
    refine o_val (v := .int .i64 (x.exp)) (x_load Tryz.isAgg3 rfl (hF.cell 0 rfl rfl)) ?_
    refine o_val (v := .bool (decide ((x.exp : Int) < (0 : Int)))) (x_lss rfl rfl) ?_
    refine o_val (x_pickf rfl rfl) ?_
    refine o_val (x_move rfl) ?_
    refine o_splitd (d := 15) (p := (x.exp : Int) < (0 : Int)) rfl (fun hg1 => ?_) (fun hg1 => ?_)
    ·
      refine o_off ?_
      refine o_off ?_
      refine o_off ?_
      refine o_off ?_
      refine o_off ?_
      refine o_off ?_
      refine o_off ?_
      refine o_val (x_pickt rfl rfl) ?_
      refine o_nil ?_
      refine e_seq ?_
      refine c_ift rfl ?_
      refine c_seq ?_
      refine c_region ?_
      refine o_val (x_assign rfl) ?_
      refine o_val (x_assign rfl) ?_
      refine o_nil ?_
      refine e_seq ?_
      refine c_ret (e_ret (post_ret (res_2 (v := .int .i64 (0)) (x := .bool false) rfl rfl rfl) ?_))
      refine ⟨?_, hF.same⟩
      first
      | (have hn : ¬ (rightN x = false ∨ x.exp < 0 ∨ 19 < (x.digits.length : Int) + x.exp) := by (refine not_or.2 ⟨by simp_all, not_or.2 ⟨by omega, by omega⟩⟩)
         rw [intN_eq, if_neg hn]
         simp_all; done)
      | (rw [intN_eq]; simp_all; done)
    ·
      refine o_val (v := .pointer (some ⟨b1, 1, none⟩)) (x_fieldAddrO fa_72_1 rfl) ?_
      refine o_val (v := .string (bs (x.digits))) (x_load Tryz.isAgg9 rfl (hF.cell 0 rfl rfl)) ?_
      refine o_val (v := .int .i64 ((((x.digits) : Str).length : Int))) (x_len_string Tryz.underlying9 rfl) ?_
      refine o_val (v := .pointer (some ⟨b1, 2, none⟩)) (x_fieldAddrO fa_72_2 rfl) ?_
      refine o_val (v := .int .i64 (x.exp)) (x_load Tryz.isAgg3 rfl (hF.cell 0 rfl rfl)) ?_
      refine o_val (v := .int .i64 ((x.digits.length : Int) + x.exp)) (x_add rfl rfl (wrap_id (by have := rightN_len (x := x) (by simp_all); omega) (by have := rightN_len (x := x) (by simp_all); omega))) ?_
      refine o_val (v := .bool (decide ((19 : Int) < ((x.digits.length : Int) + x.exp : Int)))) (x_gtr rfl rfl) ?_
      refine o_val (x_pickf rfl rfl) ?_
      refine o_nil ?_
      refine e_seq ?_
      refine c_splitd (d := 23) (p := (19 : Int) < ((x.digits.length : Int) + x.exp : Int)) rfl (fun hc0 => ?_) (fun hc0 => ?_)
      ·
        refine c_ift rfl ?_
        refine c_seq ?_
        refine c_region ?_
        refine o_val (x_assign rfl) ?_
        refine o_val (x_assign rfl) ?_
        refine o_nil ?_
        refine e_seq ?_
        refine c_ret (e_ret (post_ret (res_2 (v := .int .i64 (0)) (x := .bool false) rfl rfl rfl) ?_))
        refine ⟨?_, hF.same⟩
        first
        | (have hn : ¬ (rightN x = false ∨ x.exp < 0 ∨ 19 < (x.digits.length : Int) + x.exp) := by (refine not_or.2 ⟨by simp_all, not_or.2 ⟨by omega, by omega⟩⟩)
           rw [intN_eq, if_neg hn]
           simp_all; done)
        | (rw [intN_eq]; simp_all; done)
      ·
        refine c_iff rfl ?_
        refine c_skip ?_
        refine e_seq ?_
        refine c_seq ?_
        refine c_drawF [] (.free 0 (.free 1 (.free 2 (.free 3 (.act 4 (.free 5 (.free 6 .nil))))))) (by kernel_rfl) hF (by kernel_rfl) (by kernel_rfl) ?_
        clear hF; intro w hF hE
        clear hE
        refine ⟨fun wq => FR w0 [] [(b1, .cells #[.bool (x.neg), .string (bs (x.digits)), .int .i64 (x.exp)] 72)] wq, hF, ?_⟩
        refine f_free rfl (v := .pointer (some ⟨b1, 1, none⟩)) (fun w hC => x_fieldAddrO fa_72_1 rfl) ?_
        refine f_free rfl (v := .string (bs (x.digits))) (fun w hC => x_load Tryz.isAgg9 rfl (hC.cell 0 rfl rfl)) ?_
        refine f_free rfl (v := .pointer (some ⟨b1, 2, none⟩)) (fun w hC => x_fieldAddrO fa_72_2 rfl) ?_
        refine f_free rfl (v := .int .i64 (x.exp)) (fun w hC => x_load Tryz.isAgg3 rfl (hC.cell 0 rfl rfl)) ?_
        refine f_call rfl (repeat0_c x.exp (by omega) (by omega) _) (x_call2 en_112 rfl rfl rfl) ?_
        rintro _ w ⟨rfl, hE⟩
        replace hF := hF.ext hE
        clear hE
        refine ⟨hF, ?_⟩
        refine f_free rfl (v := .string (bs ((x.digits) ++ (Lib.repeatL [48] x.exp.toNat)))) (fun w hC => x_cat rfl rfl (by have := repeatL_len 48 x.exp.toNat; have := rightN_len (x := x) (by simp_all); first | omega | (simp only [List.length_append, List.length_cons, List.length_nil]; omega))) ?_
        refine f_free rfl (v := .string (bs ((x.digits) ++ (Lib.repeatL [48] x.exp.toNat)))) (fun w hC => x_assign rfl) ?_
        refine d_nil ?_
        refine e_seq ?_
        refine c_seq ?_
        refine c_join (fun σ w => AllEq σ [(4, .string (bs (intT x)))] ∧ FR w0 [] [(b1, .cells #[.bool (x.neg), .string (bs (x.digits)), .int .i64 (x.exp)] 72)] w) ?_ ?_
        ·
          refine c_seq ?_
          refine c_region ?_
          refine o_val (v := .pointer (some ⟨b1, 0, none⟩)) (x_fieldAddrO fa_72_0 rfl) ?_
          refine o_val (v := .bool (x.neg)) (x_load Tryz.isAgg4 rfl (hF.cell 0 rfl rfl)) ?_
          refine o_nil ?_
          refine e_seq ?_
          refine c_split (d := 31) (b := x.neg) rfl (fun hc1 => ?_) (fun hc1 => ?_)
          ·
            have eT : [45] ++ (x.digits ++ Lib.repeatL [48] x.exp.toNat) = intT x := by unfold intT; rw [if_pos (by assumption)]; rfl
            refine c_ift rfl ?_
            refine c_region ?_
            refine o_val (x_move rfl) ?_
            refine o_val (v := .string (bs (intT x))) (by rw [← eT]; exact x_cat rfl rfl (by have := repeatL_len 48 x.exp.toNat; have := rightN_len (x := x) (by simp_all); first | omega | (simp only [List.length_append, List.length_cons, List.length_nil]; omega))) ?_
            refine o_val (x_assign rfl) ?_
            refine o_nil ?_
            exact e_inv ⟨⟨rfl, trivial⟩, hF⟩
          ·
            have eT : x.digits ++ Lib.repeatL [48] x.exp.toNat = intT x := by unfold intT; rw [if_neg (by simp_all)]
            rw [eT]
            refine c_iff rfl ?_
            refine c_skip ?_
            exact e_inv ⟨⟨rfl, trivial⟩, hF⟩
        clear hF; rintro σ w ⟨hs, hF⟩
        refine Eg.slots hs ?_
        clear hs; intro σ
        have hT : (intT x).length ≤ 1020 := by have := repeatL_len 48 x.exp.toNat; have := rightN_len (x := x) (by simp_all); unfold intT; split <;> simp only [List.length_append, List.length_cons] <;> omega
        refine e_seq ?_
        refine c_seq ?_
        refine c_seq ?_
        refine c_region ?_
        refine o_val (x_move rfl) ?_
        refine o_val (v := .bool (decide ((intT x : Str) = []))) (x_eqls rfl rfl) ?_
        refine o_nil ?_
        refine e_seq ?_
        refine c_splitd (d := 35) (p := (intT x : Str) = []) rfl (fun hc2 => ?_) (fun hc2 => ?_)
        ·
          refine c_ift rfl ?_
          refine c_seq ?_
          refine c_region ?_
          refine o_val (x_assign rfl) ?_
          refine o_val (x_assign rfl) ?_
          refine o_nil ?_
          refine e_seq ?_
          refine c_ret (e_ret (post_ret (res_2 (v := .int .i64 (0)) (x := .bool true) rfl rfl rfl) ?_))
          refine ⟨?_, hF.same⟩
          first
          | (have hn : ¬ (rightN x = false ∨ x.exp < 0 ∨ 19 < (x.digits.length : Int) + x.exp) := by (refine not_or.2 ⟨by simp_all, not_or.2 ⟨by omega, by omega⟩⟩)
             rw [intN_eq, if_neg hn]
             simp_all; done)
          | (rw [intN_eq]; simp_all; done)
        ·
          refine c_iff rfl ?_
          refine c_skip ?_
          refine e_seq ?_
          refine c_seq ?_
          refine c_region ?_
          refine o_val (x_move rfl) ?_
          refine o_call (parseInt_c (intT x) (by omega) (hG.ext hF.same)) (x_call3 en_113 rfl rfl rfl rfl) ?_
          rintro _ w ⟨e, rfl, he, hE⟩
          replace hF := hF.ext hE
          clear hE
          refine o_val (x_move rfl) ?_
          refine o_val (x_extract rfl rfl) ?_
          refine o_val (x_extract rfl rfl) ?_
          refine o_val (x_assign rfl) ?_
          refine o_val (x_assign rfl) ?_
          refine o_nil ?_
          refine e_seq ?_
          refine c_seq ?_
          refine c_seq ?_
          refine c_region ?_
          refine o_val (x_move rfl) ?_
          refine o_val (v := .bool (!(pI (intT x)).2)) (x_err_neq (Tryz.underlying149) he rfl rfl) ?_
          refine o_nil ?_
          refine e_seq ?_
          refine c_split (d := 42) (b := !(pI (intT x)).2) rfl (fun hc3 => ?_) (fun hc3 => ?_)
          ·
            refine c_ift rfl ?_
            refine c_seq ?_
            refine c_region ?_
            refine o_val (x_assign rfl) ?_
            refine o_val (x_assign rfl) ?_
            refine o_nil ?_
            refine e_seq ?_
            refine c_ret (e_ret (post_ret (res_2 (v := .int .i64 (0)) (x := .bool false) rfl rfl rfl) ?_))
            refine ⟨?_, hF.same⟩
            first
            | (have hn : ¬ (rightN x = false ∨ x.exp < 0 ∨ 19 < (x.digits.length : Int) + x.exp) := by (refine not_or.2 ⟨by simp_all, not_or.2 ⟨by omega, by omega⟩⟩)
               rw [intN_eq, if_neg hn]
               simp_all; done)
            | (rw [intN_eq]; simp_all; done)
          ·
            refine c_iff rfl ?_
            refine c_skip ?_
            refine e_seq ?_
            refine c_seq ?_
            refine c_region ?_
            refine o_val (x_move rfl) ?_
            refine o_val (x_assign rfl) ?_
            refine o_val (x_assign rfl) ?_
            refine o_nil ?_
            refine e_seq ?_
            refine c_ret (e_ret (post_ret (res_2 (v := .int .i64 ((pI (intT x)).1)) (x := .bool true) rfl rfl rfl) ?_))
            refine ⟨?_, hF.same⟩
            first
            | (have hn : ¬ (rightN x = false ∨ x.exp < 0 ∨ 19 < (x.digits.length : Int) + x.exp) := by (refine not_or.2 ⟨by simp_all, not_or.2 ⟨by omega, by omega⟩⟩)
               rw [intN_eq, if_neg hn]
               simp_all; done)
            | (rw [intN_eq]; simp_all; done)
end Go.Scarf
