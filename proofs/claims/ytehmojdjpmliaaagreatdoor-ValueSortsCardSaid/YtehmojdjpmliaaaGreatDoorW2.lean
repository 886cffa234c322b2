/- A part of the proof. -/
import Derived.Test.YtehmojdjpmliaaaGreatDoorW1
set_option linter.all false
namespace Go.Scarf
open Go.RowKit Go.Proofs
theorem readN_lens (s : Str) : (readN s).1.whole.length ≤ s.length ∧ (readN s).1.rest.length ≤ s.length ∧ (readN s).1.exp.length ≤ s.length := by
  have h1 := cutAny_fst_len [101, 69] (Lib.trimPrefix s [45])
  have h2 := trimPrefix_len s [45]
  have h3 := cutAny_fst_len [46] (cutAny [101, 69] (Lib.trimPrefix s [45])).1
  have h4 := trimPrefix_len (cutAny [101, 69] (Lib.trimPrefix s [45])).2.1 [45]
  have h5 := trimPrefix_len (Lib.trimPrefix (cutAny [101, 69] (Lib.trimPrefix s [45])).2.1 [45]) [43]
  unfold readN
  simp only
  repeat' split
  all_goals (refine ⟨?_, ?_, ?_⟩ <;> simp only [readEnd, List.length_nil] <;> omega)
def expE (s : Str) : Int := if (readN s).1.low then - expVal (Lib.trimLeftB (readN s).1.exp 48) else expVal (Lib.trimLeftB (readN s).1.exp 48)
theorem parseN_eq (s : Str) : parseN s = if (readN s).2 = false then (Num.zero, 2) else
  if 1000 < (readN s).1.whole.length + (readN s).1.rest.length then (Num.zero, 3) else
  if 9 < (Lib.trimLeftB (readN s).1.exp 48).length then (Num.zero, 4) else
  if Lib.trimLeftB ((readN s).1.whole ++ (readN s).1.rest) 48 = [] then (Num.zero, 0) else
  if rightN (⟨(readN s).1.neg, Lib.trimRightB (Lib.trimLeftB ((readN s).1.whole ++ (readN s).1.rest) 48) 48, expE s - (readN s).1.rest.length + (Lib.trimLeftB ((readN s).1.whole ++ (readN s).1.rest) 48).length - (Lib.trimRightB (Lib.trimLeftB ((readN s).1.whole ++ (readN s).1.rest) 48) 48).length⟩) = false then (Num.zero, 4) else
  (⟨(readN s).1.neg, Lib.trimRightB (Lib.trimLeftB ((readN s).1.whole ++ (readN s).1.rest) 48) 48, expE s - (readN s).1.rest.length + (Lib.trimLeftB ((readN s).1.whole ++ (readN s).1.rest) 48).length - (Lib.trimRightB (Lib.trimLeftB ((readN s).1.whole ++ (readN s).1.rest) 48) 48).length⟩, 0) := rfl
theorem range_exp {s : Str} {q : Nat} (h : q < s.length) (ha : s.all isDig = true) : (Utf8.decode (bs s) q).1 = s[q].toNat ∧ (Utf8.decode (bs s) q).2 = 1 ∧ 48 ≤ s[q].toNat ∧ s[q].toNat ≤ 57 := by
  have hd := List.all_eq_true.1 ha s[q] (List.getElem_mem h)
  have := decode_isDig s q h hd
  rw [this]
  unfold isDig at hd
  simp only [Bool.and_eq_true, decide_eq_true_eq] at hd
  exact ⟨rfl, rfl, hd.1, hd.2⟩
theorem all_take {f : UInt8 → Bool} {s : Str} (q : Nat) (h : s.all f = true) : (s.take q).all f = true := by
  rw [List.all_eq_true] at h ⊢
  exact fun x hx => h x (List.mem_of_mem_take hx)
set_option maxHeartbeats 4000000 in
set_option maxRecDepth 10000 in
theorem parse_c (s : Str) (hl : s.length ≤ 140737488355328) (w0 : World) : Calls Tryz.prog 93 #[.string (bs s)] w0 (Ret fun v w' => v = .tuple #[numV (parseN s).1, .int .i64 (parseN s).2] ∧ Same [] w0 w') := by
  have hls := readN_lens s
  have ht0 := trimLeftB_len (readN s).1.exp 48
  have ht1 := trimLeftB_len ((readN s).1.whole ++ (readN s).1.rest) 48
  rw [List.length_append] at ht1
  have ht2 := trimRightB_len (Lib.trimLeftB ((readN s).1.whole ++ (readN s).1.rest) 48) 48
  refine calls_start Tryz.func93 rfl Tryz.ntmps93 (Nat.le_of_ble_eq_true rfl) (args_1 _) ?_
  have hF := FR.start w0 []
  refine c_seq ?_
  refine c_region ?_
  refine o_alloc (cs := #[.bool false, .string (bs ([])), .int .i64 (0)]) hF Tryz.zeroValue65 rfl ?_
  clear hF; intro b1 w hb1 hF hE
  clear hE
  refine o_val (v := .int .i64 (0)) (x_assign rfl) ?_
  refine o_nil ?_
  refine e_seq ?_
  refine c_seq ?_
  refine c_region ?_
  refine o_val (v := .string (bs (s))) (x_move rfl) ?_
  refine o_call (read_c s hl _) (x_call1 en_124 rfl rfl) ?_
  rintro _ w ⟨rfl, hE⟩
  replace hF := hF.ext hE
  clear hE
  refine o_val (v := .tuple #[.agg #[.bool ((readN s).1.neg), .bool ((readN s).1.low), .string (bs ((readN s).1.whole)), .string (bs ((readN s).1.rest)), .string (bs ((readN s).1.exp))], .bool ((readN s).2)]) (x_move rfl) ?_
  refine o_val (v := .agg #[.bool ((readN s).1.neg), .bool ((readN s).1.low), .string (bs ((readN s).1.whole)), .string (bs ((readN s).1.rest)), .string (bs ((readN s).1.exp))]) (x_extract rfl rfl) ?_
  refine o_val (v := .bool ((readN s).2)) (x_extract rfl rfl) ?_
  refine o_lay (l := [.bool ((readN s).1.neg), .bool ((readN s).1.low), .string (bs ((readN s).1.whole)), .string (bs ((readN s).1.rest)), .string (bs ((readN s).1.exp))]) hF Tryz.zeroValue109 Tryz.sizeOf109 rfl (v := .agg #[.bool ((readN s).1.neg), .bool ((readN s).1.low), .string (bs ((readN s).1.whole)), .string (bs ((readN s).1.rest)), .string (bs ((readN s).1.exp))]) rfl rfl (by simp [one]) rfl ?_
  clear hF; intro b2 w hb2 hF hE
  clear hE
  refine o_val (v := .bool ((readN s).2)) (x_assign rfl) ?_
  refine o_nil ?_
  refine e_seq ?_
  refine c_seq ?_
  refine c_region ?_
  refine o_val (v := .pointer (some ⟨b2, 4, none⟩)) (x_fieldAddrO fa_109_4 rfl) ?_
  refine o_val (v := .string (bs ((readN s).1.exp))) (x_load Tryz.isAgg9 rfl (hF.cell 0 rfl rfl)) ?_
  refine o_call (trimLeft0_c (readN s).1.exp _) (x_call2 en_125 rfl rfl rfl) ?_
  rintro _ w ⟨rfl, hE⟩
  replace hF := hF.ext hE
  clear hE
  refine o_val (v := .string (bs ((Lib.trimLeftB (readN s).1.exp 48)))) (x_assign rfl) ?_
  refine o_nil ?_
  refine e_seq ?_
  refine c_seq ?_
  refine c_block ?_
  refine c_seq ?_
  refine c_region ?_
  refine o_val (v := .bool ((readN s).2)) (x_move rfl) ?_
  refine o_val (v := .bool (!((readN s).2))) (x_not rfl) ?_
  refine o_val (v := .bool (!((readN s).2))) (x_assign rfl) ?_
  refine o_nil ?_
  refine e_seq ?_
  refine c_split (d := 21) (b := !((readN s).2)) rfl (fun hc0 => ?_) (fun hc0 => ?_)
  ·
    refine c_ift rfl ?_
    refine c_seq ?_
    refine c_region ?_
    refine o_val (w' := w) (v := .agg #[.bool false, .string (bs ([])), .int .i64 (0)]) (by kernel_rfl) ?_
    refine o_store 1 (l := [.bool false, .string (bs ([])), .int .i64 (0)]) (cs' := #[.bool false, .string (bs ([])), .int .i64 (0)]) hF Tryz.sizeOf65 rfl (v := .agg #[.bool false, .string (bs ([])), .int .i64 (0)]) rfl rfl (by simp [one]) rfl (Nat.le_of_ble_eq_true rfl) rfl ?_
    clear hF; intro w hF hE
    clear hE
    replace hF : FR w0 [] [(b2, .cells #[.bool ((readN s).1.neg), .bool ((readN s).1.low), .string (bs ((readN s).1.whole)), .string (bs ((readN s).1.rest)), .string (bs ((readN s).1.exp))] 109), (b1, .cells #[.bool false, .string (bs ([])), .int .i64 (0)] 65)] w := hF
    refine o_val (v := .int .i64 (2)) (x_assign rfl) ?_
    refine o_nil ?_
    refine e_seq ?_
    refine c_ret (e_ret (post_ret (res_ct rfl (l := [.bool false, .string (bs ([])), .int .i64 (0)]) rfl Tryz.isAgg65 Tryz.sizeOf65 rfl (hF.cellsAll 1 rfl) (v := .int .i64 (2)) rfl) ?_))
    exact ⟨by rw [parseN_eq, if_pos (by simpa using hc0)]; rfl, hF.same⟩
  ·
    refine c_iff rfl ?_
    refine c_seq ?_
    refine c_region ?_
    refine o_val (v := .pointer (some ⟨b2, 2, none⟩)) (x_fieldAddrO fa_109_2 rfl) ?_
    refine o_val (v := .string (bs ((readN s).1.whole))) (x_load Tryz.isAgg9 rfl (hF.cell 0 rfl rfl)) ?_
    refine o_val (v := .int .i64 (((((readN s).1.whole) : Str).length : Int))) (x_len_string Tryz.underlying9 rfl) ?_
    refine o_val (v := .pointer (some ⟨b2, 3, none⟩)) (x_fieldAddrO fa_109_3 rfl) ?_
    refine o_val (v := .string (bs ((readN s).1.rest))) (x_load Tryz.isAgg9 rfl (hF.cell 0 rfl rfl)) ?_
    refine o_val (v := .int .i64 (((((readN s).1.rest) : Str).length : Int))) (x_len_string Tryz.underlying9 rfl) ?_
    refine o_val (v := .int .i64 ((((((readN s).1.whole) : Str).length : Int) : Int) + ((((readN s).1.rest) : Str).length : Int))) (x_add rfl rfl (wrap_id (by omega) (by omega))) ?_
    refine o_val (v := .bool (decide ((1000 : Int) < ((((((readN s).1.whole) : Str).length : Int) : Int) + ((((readN s).1.rest) : Str).length : Int) : Int)))) (x_gtr rfl rfl) ?_
    refine o_val (v := .bool (decide ((1000 : Int) < ((((((readN s).1.whole) : Str).length : Int) : Int) + ((((readN s).1.rest) : Str).length : Int) : Int)))) (x_assign rfl) ?_
    refine o_nil ?_
    refine e_seq ?_
    refine c_splitd (d := 25) (p := (1000 : Int) < ((((((readN s).1.whole) : Str).length : Int) : Int) + ((((readN s).1.rest) : Str).length : Int) : Int)) rfl (fun hc1 => ?_) (fun hc1 => ?_)
    ·
      refine c_ift rfl ?_
      refine c_seq ?_
      refine c_region ?_
      refine o_val (w' := w) (v := .agg #[.bool false, .string (bs ([])), .int .i64 (0)]) (by kernel_rfl) ?_
      refine o_store 1 (l := [.bool false, .string (bs ([])), .int .i64 (0)]) (cs' := #[.bool false, .string (bs ([])), .int .i64 (0)]) hF Tryz.sizeOf65 rfl (v := .agg #[.bool false, .string (bs ([])), .int .i64 (0)]) rfl rfl (by simp [one]) rfl (Nat.le_of_ble_eq_true rfl) rfl ?_
      clear hF; intro w hF hE
      clear hE
      replace hF : FR w0 [] [(b2, .cells #[.bool ((readN s).1.neg), .bool ((readN s).1.low), .string (bs ((readN s).1.whole)), .string (bs ((readN s).1.rest)), .string (bs ((readN s).1.exp))] 109), (b1, .cells #[.bool false, .string (bs ([])), .int .i64 (0)] 65)] w := hF
      refine o_val (v := .int .i64 (3)) (x_assign rfl) ?_
      refine o_nil ?_
      refine e_seq ?_
      refine c_ret (e_ret (post_ret (res_ct rfl (l := [.bool false, .string (bs ([])), .int .i64 (0)]) rfl Tryz.isAgg65 Tryz.sizeOf65 rfl (hF.cellsAll 1 rfl) (v := .int .i64 (3)) rfl) ?_))
      exact ⟨by rw [parseN_eq, if_neg (by simpa using hc0), if_pos (by omega)]; rfl, hF.same⟩
    ·
      refine c_iff rfl ?_
      refine c_seq ?_
      refine c_region ?_
      refine o_val (v := .string (bs ((Lib.trimLeftB (readN s).1.exp 48)))) (x_move rfl) ?_
      refine o_val (v := .int .i64 (((((Lib.trimLeftB (readN s).1.exp 48)) : Str).length : Int))) (x_len_string Tryz.underlying9 rfl) ?_
      refine o_val (v := .bool (decide ((9 : Int) < (((((Lib.trimLeftB (readN s).1.exp 48)) : Str).length : Int) : Int)))) (x_gtr rfl rfl) ?_
      refine o_val (v := .bool (decide ((9 : Int) < (((((Lib.trimLeftB (readN s).1.exp 48)) : Str).length : Int) : Int)))) (x_assign rfl) ?_
      refine o_nil ?_
      refine e_seq ?_
      refine c_splitd (d := 35) (p := (9 : Int) < (((((Lib.trimLeftB (readN s).1.exp 48)) : Str).length : Int) : Int)) rfl (fun hc2 => ?_) (fun hc2 => ?_)
      ·
        refine c_ift rfl ?_
        refine c_seq ?_
        refine c_region ?_
        refine o_val (w' := w) (v := .agg #[.bool false, .string (bs ([])), .int .i64 (0)]) (by kernel_rfl) ?_
        refine o_store 1 (l := [.bool false, .string (bs ([])), .int .i64 (0)]) (cs' := #[.bool false, .string (bs ([])), .int .i64 (0)]) hF Tryz.sizeOf65 rfl (v := .agg #[.bool false, .string (bs ([])), .int .i64 (0)]) rfl rfl (by simp [one]) rfl (Nat.le_of_ble_eq_true rfl) rfl ?_
        clear hF; intro w hF hE
        clear hE
        replace hF : FR w0 [] [(b2, .cells #[.bool ((readN s).1.neg), .bool ((readN s).1.low), .string (bs ((readN s).1.whole)), .string (bs ((readN s).1.rest)), .string (bs ((readN s).1.exp))] 109), (b1, .cells #[.bool false, .string (bs ([])), .int .i64 (0)] 65)] w := hF
        refine o_val (v := .int .i64 (4)) (x_assign rfl) ?_
        refine o_nil ?_
        refine e_seq ?_
        refine c_ret (e_ret (post_ret (res_ct rfl (l := [.bool false, .string (bs ([])), .int .i64 (0)]) rfl Tryz.isAgg65 Tryz.sizeOf65 rfl (hF.cellsAll 1 rfl) (v := .int .i64 (4)) rfl) ?_))
        exact ⟨by rw [parseN_eq, if_neg (by simpa using hc0), if_neg (by omega), if_pos (by omega)]; rfl, hF.same⟩
      ·
        refine c_iff rfl ?_
        refine c_skip ?_
        refine e_block ?_
        refine e_seq ?_
        refine c_seq ?_
        refine c_region ?_
        refine o_val (v := .int .i64 (0)) (x_assign rfl) ?_
        refine o_nil ?_
        refine e_seq ?_
        refine c_seq ?_
        refine c_seq ?_
        refine c_region ?_
        refine o_val (v := .string (bs ((Lib.trimLeftB (readN s).1.exp 48)))) (x_move rfl) ?_
        refine o_rangeS (str := (Lib.trimLeftB (readN s).1.exp 48)) hF Tryz.underlying9 rfl ?_
        clear hF; intro b3 w hb3 hF hE
        clear hE
        refine o_nil ?_
        refine e_seq ?_
        refine c_block ?_
        have hall : (Lib.trimLeftB (readN s).1.exp 48).all isDig = true := all_dropWhile (readN_exp (by simp_all))
        refine c_loop (fun μ σ w => ∃ (q : Nat), μ = (Lib.trimLeftB (readN s).1.exp 48).length - q ∧ (q ≤ (Lib.trimLeftB (readN s).1.exp 48).length) ∧ AllEq σ [(2, .pointer (some ⟨b1, 0, none⟩)), (4, .pointer (some ⟨b2, 0, none⟩)), (7, .int .i64 (expVal ((Lib.trimLeftB (readN s).1.exp 48).take q))), (41, .pointer (some ⟨b3, 0, none⟩))] ∧ FR w0 [] [(b3, .stringIter (bs ((Lib.trimLeftB (readN s).1.exp 48))) (q)), (b2, .cells #[.bool ((readN s).1.neg), .bool ((readN s).1.low), .string (bs ((readN s).1.whole)), .string (bs ((readN s).1.rest)), .string (bs ((readN s).1.exp))] 109), (b1, .cells #[.bool false, .string (bs ([])), .int .i64 (0)] 65)] w) _ ⟨0, rfl, (Nat.zero_le _), ⟨rfl, rfl, rfl, rfl, trivial⟩, hF⟩ ?_
        clear hF; rintro μ σ w ⟨q, rfl, hq, hs, hF⟩
        refine Cg.slots hs ?_
        clear hs; intro σ
        refine c_seq ?_
        refine c_region ?_
        by_cases hn0 : (q) < ((Lib.trimLeftB (readN s).1.exp 48) : Str).length
        ·
          refine o_nextS 0 (p := q) (str := (Lib.trimLeftB (readN s).1.exp 48)) hF rfl rfl hn0 ?_
          clear hF; intro w hF hE
          clear hE
          replace hF : FR w0 [] [(b3, .stringIter (bs ((Lib.trimLeftB (readN s).1.exp 48))) (q + (Utf8.decode (bs ((Lib.trimLeftB (readN s).1.exp 48))) (q)).2)), (b2, .cells #[.bool ((readN s).1.neg), .bool ((readN s).1.low), .string (bs ((readN s).1.whole)), .string (bs ((readN s).1.rest)), .string (bs ((readN s).1.exp))] 109), (b1, .cells #[.bool false, .string (bs ([])), .int .i64 (0)] 65)] w := hF
          refine o_val (v := .bool true) (x_extract rfl rfl) ?_
          refine o_nil ?_
          refine e_seq ?_
          refine c_seq ?_
          refine c_ift rfl ?_
          refine c_skip ?_
          refine e_seq ?_
          refine c_block ?_
          refine c_seq ?_
          refine c_region ?_
          refine o_val (v := .int .i32 (((Utf8.decode (bs ((Lib.trimLeftB (readN s).1.exp 48))) (q)).1 : Int))) (x_extract rfl rfl) ?_
          refine o_val (v := .int .i32 (((Utf8.decode (bs ((Lib.trimLeftB (readN s).1.exp 48))) (q)).1 : Int))) (x_assign rfl) ?_
          refine o_nil ?_
          refine e_seq ?_
          refine c_region ?_
          refine o_val (v := .int .i64 (expVal ((Lib.trimLeftB (readN s).1.exp 48).take q))) (x_move rfl) ?_
          have hv := range_exp (s := (Lib.trimLeftB (readN s).1.exp 48)) (q := q) (by omega) hall
          have hb := expVal_lt ((Lib.trimLeftB (readN s).1.exp 48).take q) (all_take q hall) (by rw [List.length_take]; omega)
          refine o_val (v := .int .i64 (10 * expVal ((Lib.trimLeftB (readN s).1.exp 48).take q))) (x_mul rfl rfl (wrap_to (by omega) (by omega) (by omega))) ?_
          refine o_val (v := .int .i32 (((Utf8.decode (bs ((Lib.trimLeftB (readN s).1.exp 48))) (q)).1 : Int))) (x_move rfl) ?_
          refine o_val (v := .int .i32 (((Utf8.decode (bs (Lib.trimLeftB (readN s).1.exp 48)) q).1 : Int) - 48)) (x_sub rfl rfl (by rw [IntKind.wrap_i32]; omega)) ?_
          refine o_val (v := .int .i64 (((Utf8.decode (bs (Lib.trimLeftB (readN s).1.exp 48)) q).1 : Int) - 48)) (x_conv_int Tryz.underlying21 Tryz.underlying3 rfl (wrap_id (by omega) (by omega))) ?_
          refine o_val (v := .int .i64 (expVal ((Lib.trimLeftB (readN s).1.exp 48).take (q + 1)))) (x_add rfl rfl (by rw [expVal_take _ q (by omega), hv.1]; exact wrap_id (by omega) (by omega))) ?_
          refine o_val (v := .int .i64 (expVal ((Lib.trimLeftB (readN s).1.exp 48).take (q + 1)))) (x_assign rfl) ?_
          refine o_nil ?_
          refine e_block ?_
          rw [hv.2.1] at hF
          refine e_inv ⟨_, ?_, q + 1, rfl, (by omega), ⟨rfl, rfl, rfl, rfl, trivial⟩, hF⟩
          omega
        ·
          refine o_nextSend 0 (p := q) (str := (Lib.trimLeftB (readN s).1.exp 48)) hF rfl rfl hn0 ?_
          refine o_val (v := .bool false) (x_extract rfl rfl) ?_
          refine o_nil ?_
          refine e_seq ?_
          refine c_seq ?_
          refine c_iff rfl ?_
          refine c_exit (e_exit rfl ?_)
          refine e_seq ?_
          have eT : (Lib.trimLeftB (readN s).1.exp 48).take q = (Lib.trimLeftB (readN s).1.exp 48) := List.take_of_length_le (by omega)
          have hb := expVal_lt (Lib.trimLeftB (readN s).1.exp 48) hall (by omega)
          have hE : -1000000000 < expE s ∧ expE s < 1000000000 := by unfold expE; split <;> omega
          refine c_seq ?_
          refine c_join (fun σ w => AllEq σ [(2, .pointer (some ⟨b1, 0, none⟩)), (4, .pointer (some ⟨b2, 0, none⟩)), (7, .int .i64 (expE s))] ∧ FR w0 [] [(b3, .stringIter (bs ((Lib.trimLeftB (readN s).1.exp 48))) (q)), (b2, .cells #[.bool ((readN s).1.neg), .bool ((readN s).1.low), .string (bs ((readN s).1.whole)), .string (bs ((readN s).1.rest)), .string (bs ((readN s).1.exp))] 109), (b1, .cells #[.bool false, .string (bs ([])), .int .i64 (0)] 65)] w) ?_ ?_
          ·
            refine c_seq ?_
            refine c_region ?_
            refine o_val (v := .pointer (some ⟨b2, 1, none⟩)) (x_fieldAddrO fa_109_1 rfl) ?_
            refine o_val (v := .bool ((readN s).1.low)) (x_load Tryz.isAgg4 rfl (hF.cell 1 rfl rfl)) ?_
            refine o_nil ?_
            refine e_seq ?_
            refine c_split (d := 52) (b := (readN s).1.low) rfl (fun hc4 => ?_) (fun hc4 => ?_)
            ·
              have eE : expE s = - expVal (Lib.trimLeftB (readN s).1.exp 48) := by unfold expE; rw [if_pos (by assumption)]
              refine c_ift rfl ?_
              refine c_region ?_
              refine o_val (v := .int .i64 (expVal ((Lib.trimLeftB (readN s).1.exp 48).take q))) (x_move rfl) ?_
              refine o_val (v := .int .i64 (expE s)) (x_neg rfl (by rw [eT, eE]; exact wrap_to (by omega) (by omega) (by omega))) ?_
              refine o_val (v := .int .i64 (expE s)) (x_assign rfl) ?_
              refine o_nil ?_
              exact e_inv ⟨⟨rfl, rfl, rfl, trivial⟩, hF⟩
            ·
              have eE : expE s = expVal (Lib.trimLeftB (readN s).1.exp 48) := by unfold expE; rw [if_neg (by simp_all)]
              rw [eT, ← eE]
              refine c_iff rfl ?_
              refine c_skip ?_
              exact e_inv ⟨⟨rfl, rfl, rfl, trivial⟩, hF⟩
          clear hF; rintro σ w ⟨hs, hF⟩
          refine Eg.slots hs ?_
          clear hs; intro σ
          refine e_seq ?_
          refine c_seq ?_
          refine c_region ?_
          refine o_val (v := .pointer (some ⟨b2, 2, none⟩)) (x_fieldAddrO fa_109_2 rfl) ?_
          refine o_val (v := .string (bs ((readN s).1.whole))) (x_load Tryz.isAgg9 rfl (hF.cell 1 rfl rfl)) ?_
          refine o_val (v := .pointer (some ⟨b2, 3, none⟩)) (x_fieldAddrO fa_109_3 rfl) ?_
          refine o_val (v := .string (bs ((readN s).1.rest))) (x_load Tryz.isAgg9 rfl (hF.cell 1 rfl rfl)) ?_
          refine o_val (v := .string (bs (((readN s).1.whole) ++ ((readN s).1.rest)))) (x_cat rfl rfl (by omega)) ?_
          refine o_call (trimLeft0_c ((readN s).1.whole ++ (readN s).1.rest) _) (x_call2 en_125 rfl rfl rfl) ?_
          rintro _ w ⟨rfl, hE⟩
          replace hF := hF.ext hE
          clear hE
          refine o_val (v := .string (bs ((Lib.trimLeftB ((readN s).1.whole ++ (readN s).1.rest) 48)))) (x_assign rfl) ?_
          refine o_nil ?_
          refine e_seq ?_
          refine c_seq ?_
          refine c_seq ?_
          refine c_region ?_
          refine o_val (v := .string (bs ((Lib.trimLeftB ((readN s).1.whole ++ (readN s).1.rest) 48)))) (x_move rfl) ?_
          refine o_val (v := .bool (decide (((Lib.trimLeftB ((readN s).1.whole ++ (readN s).1.rest) 48) : Str) = []))) (x_eqls rfl rfl) ?_
          refine o_nil ?_
          refine e_seq ?_
          refine c_splitd (d := 62) (p := ((Lib.trimLeftB ((readN s).1.whole ++ (readN s).1.rest) 48) : Str) = []) rfl (fun hc5 => ?_) (fun hc5 => ?_)
          ·
            refine c_ift rfl ?_
            refine c_seq ?_
            refine c_region ?_
            refine o_val (w' := w) (v := .agg #[.bool false, .string (bs ([])), .int .i64 (0)]) (by kernel_rfl) ?_
            refine o_store 2 (l := [.bool false, .string (bs ([])), .int .i64 (0)]) (cs' := #[.bool false, .string (bs ([])), .int .i64 (0)]) hF Tryz.sizeOf65 rfl (v := .agg #[.bool false, .string (bs ([])), .int .i64 (0)]) rfl rfl (by simp [one]) rfl (Nat.le_of_ble_eq_true rfl) rfl ?_
            clear hF; intro w hF hE
            clear hE
            replace hF : FR w0 [] [(b3, .stringIter (bs ((Lib.trimLeftB (readN s).1.exp 48))) (q)), (b2, .cells #[.bool ((readN s).1.neg), .bool ((readN s).1.low), .string (bs ((readN s).1.whole)), .string (bs ((readN s).1.rest)), .string (bs ((readN s).1.exp))] 109), (b1, .cells #[.bool false, .string (bs ([])), .int .i64 (0)] 65)] w := hF
            refine o_val (v := .int .i64 (0)) (x_assign rfl) ?_
            refine o_nil ?_
            refine e_seq ?_
            refine c_ret (e_ret (post_ret (res_ct rfl (l := [.bool false, .string (bs ([])), .int .i64 (0)]) rfl Tryz.isAgg65 Tryz.sizeOf65 rfl (hF.cellsAll 2 rfl) (v := .int .i64 (0)) rfl) ?_))
            exact ⟨by rw [parseN_eq, if_neg (by simpa using hc0), if_neg (by omega), if_neg (by omega), if_pos hc5]; rfl, hF.same⟩
          ·
            refine c_iff rfl ?_
            refine c_skip ?_
            refine e_seq ?_
            refine c_seq ?_
            refine c_region ?_
            refine o_val (v := .string (bs ((Lib.trimLeftB ((readN s).1.whole ++ (readN s).1.rest) 48)))) (x_move rfl) ?_
            refine o_call (trimRight0_c (Lib.trimLeftB ((readN s).1.whole ++ (readN s).1.rest) 48) _ (by omega)) (x_call2 en_126 rfl rfl rfl) ?_
            rintro _ w ⟨rfl, hE⟩
            replace hF := hF.ext hE
            clear hE
            refine o_val (v := .string (bs ((Lib.trimRightB (Lib.trimLeftB ((readN s).1.whole ++ (readN s).1.rest) 48) 48)))) (x_assign rfl) ?_
            refine o_nil ?_
            refine e_seq ?_
            refine c_seq ?_
            refine c_region ?_
            refine o_val (v := .pointer (some ⟨b2, 0, none⟩)) (x_fieldAddrO fa_109_0 rfl) ?_
            refine o_val (v := .bool ((readN s).1.neg)) (x_load Tryz.isAgg4 rfl (hF.cell 1 rfl rfl)) ?_
            refine o_val (v := .string (bs ((Lib.trimRightB (Lib.trimLeftB ((readN s).1.whole ++ (readN s).1.rest) 48) 48)))) (x_move rfl) ?_
            refine o_val (v := .int .i64 (expE s)) (x_move rfl) ?_
            refine o_val (v := .pointer (some ⟨b2, 3, none⟩)) (x_fieldAddrO fa_109_3 rfl) ?_
            refine o_val (v := .string (bs ((readN s).1.rest))) (x_load Tryz.isAgg9 rfl (hF.cell 1 rfl rfl)) ?_
            refine o_val (v := .int .i64 (((((readN s).1.rest) : Str).length : Int))) (x_len_string Tryz.underlying9 rfl) ?_
            refine o_val (v := .int .i64 ((expE s : Int) - ((((readN s).1.rest) : Str).length : Int))) (x_sub rfl rfl (wrap_id (by omega) (by omega))) ?_
            refine o_val (v := .string (bs ((Lib.trimLeftB ((readN s).1.whole ++ (readN s).1.rest) 48)))) (x_move rfl) ?_
            refine o_val (v := .int .i64 (((((Lib.trimLeftB ((readN s).1.whole ++ (readN s).1.rest) 48)) : Str).length : Int))) (x_len_string Tryz.underlying9 rfl) ?_
            refine o_val (v := .int .i64 (((expE s : Int) - ((((readN s).1.rest) : Str).length : Int) : Int) + ((((Lib.trimLeftB ((readN s).1.whole ++ (readN s).1.rest) 48)) : Str).length : Int))) (x_add rfl rfl (wrap_id (by omega) (by omega))) ?_
            refine o_val (v := .string (bs ((Lib.trimRightB (Lib.trimLeftB ((readN s).1.whole ++ (readN s).1.rest) 48) 48)))) (x_move rfl) ?_
            refine o_val (v := .int .i64 (((((Lib.trimRightB (Lib.trimLeftB ((readN s).1.whole ++ (readN s).1.rest) 48) 48)) : Str).length : Int))) (x_len_string Tryz.underlying9 rfl) ?_
            refine o_val (v := .int .i64 ((((expE s : Int) - ((((readN s).1.rest) : Str).length : Int) : Int) + ((((Lib.trimLeftB ((readN s).1.whole ++ (readN s).1.rest) 48)) : Str).length : Int) : Int) - ((((Lib.trimRightB (Lib.trimLeftB ((readN s).1.whole ++ (readN s).1.rest) 48) 48)) : Str).length : Int))) (x_sub rfl rfl (wrap_id (by omega) (by omega))) ?_
            refine o_val (w' := w) (v := .agg #[.bool ((readN s).1.neg), .string (bs ((Lib.trimRightB (Lib.trimLeftB ((readN s).1.whole ++ (readN s).1.rest) 48) 48))), .int .i64 ((((expE s : Int) - ((((readN s).1.rest) : Str).length : Int) : Int) + ((((Lib.trimLeftB ((readN s).1.whole ++ (readN s).1.rest) 48)) : Str).length : Int) : Int) - ((((Lib.trimRightB (Lib.trimLeftB ((readN s).1.whole ++ (readN s).1.rest) 48) 48)) : Str).length : Int))]) (by kernel_rfl) ?_
            refine o_lay (l := [.bool ((readN s).1.neg), .string (bs ((Lib.trimRightB (Lib.trimLeftB ((readN s).1.whole ++ (readN s).1.rest) 48) 48))), .int .i64 ((((expE s : Int) - ((((readN s).1.rest) : Str).length : Int) : Int) + ((((Lib.trimLeftB ((readN s).1.whole ++ (readN s).1.rest) 48)) : Str).length : Int) : Int) - ((((Lib.trimRightB (Lib.trimLeftB ((readN s).1.whole ++ (readN s).1.rest) 48) 48)) : Str).length : Int))]) hF Tryz.zeroValue65 Tryz.sizeOf65 rfl (v := .agg #[.bool ((readN s).1.neg), .string (bs ((Lib.trimRightB (Lib.trimLeftB ((readN s).1.whole ++ (readN s).1.rest) 48) 48))), .int .i64 ((((expE s : Int) - ((((readN s).1.rest) : Str).length : Int) : Int) + ((((Lib.trimLeftB ((readN s).1.whole ++ (readN s).1.rest) 48)) : Str).length : Int) : Int) - ((((Lib.trimRightB (Lib.trimLeftB ((readN s).1.whole ++ (readN s).1.rest) 48) 48)) : Str).length : Int))]) rfl rfl (by simp [one]) rfl ?_
            clear hF; intro b4 w hb4 hF hE
            clear hE
            refine o_nil ?_
            refine e_seq ?_
            refine c_seq ?_
            refine c_seq ?_
            refine c_region ?_
            refine o_val (v := .agg #[.bool ((readN s).1.neg), .string (bs ((Lib.trimRightB (Lib.trimLeftB ((readN s).1.whole ++ (readN s).1.rest) 48) 48))), .int .i64 ((((expE s : Int) - ((((readN s).1.rest) : Str).length : Int) : Int) + ((((Lib.trimLeftB ((readN s).1.whole ++ (readN s).1.rest) 48)) : Str).length : Int) : Int) - ((((Lib.trimRightB (Lib.trimLeftB ((readN s).1.whole ++ (readN s).1.rest) 48) 48)) : Str).length : Int))]) (x_loadS (l := [.bool ((readN s).1.neg), .string (bs ((Lib.trimRightB (Lib.trimLeftB ((readN s).1.whole ++ (readN s).1.rest) 48) 48))), .int .i64 ((((expE s : Int) - ((((readN s).1.rest) : Str).length : Int) : Int) + ((((Lib.trimLeftB ((readN s).1.whole ++ (readN s).1.rest) 48)) : Str).length : Int) : Int) - ((((Lib.trimRightB (Lib.trimLeftB ((readN s).1.whole ++ (readN s).1.rest) 48) 48)) : Str).length : Int))]) Tryz.isAgg65 Tryz.sizeOf65 rfl rfl (hF.cellsAll 0 rfl)) ?_
            refine o_call (right_c (⟨(readN s).1.neg, (Lib.trimRightB (Lib.trimLeftB ((readN s).1.whole ++ (readN s).1.rest) 48) 48), expE s - (readN s).1.rest.length + (Lib.trimLeftB ((readN s).1.whole ++ (readN s).1.rest) 48).length - (Lib.trimRightB (Lib.trimLeftB ((readN s).1.whole ++ (readN s).1.rest) 48) 48).length⟩) (by show (Lib.trimRightB (Lib.trimLeftB ((readN s).1.whole ++ (readN s).1.rest) 48) 48).length ≤ _; omega) _) (x_call1 en_91 rfl rfl) ?_
            rintro _ w ⟨rfl, hE⟩
            replace hF := hF.ext hE
            clear hE
            refine o_val (v := .bool (!(rightN (⟨(readN s).1.neg, (Lib.trimRightB (Lib.trimLeftB ((readN s).1.whole ++ (readN s).1.rest) 48) 48), expE s - (readN s).1.rest.length + (Lib.trimLeftB ((readN s).1.whole ++ (readN s).1.rest) 48).length - (Lib.trimRightB (Lib.trimLeftB ((readN s).1.whole ++ (readN s).1.rest) 48) 48).length⟩)))) (x_not rfl) ?_
            refine o_nil ?_
            refine e_seq ?_
            refine c_split (d := 83) (b := !(rightN (⟨(readN s).1.neg, (Lib.trimRightB (Lib.trimLeftB ((readN s).1.whole ++ (readN s).1.rest) 48) 48), expE s - (readN s).1.rest.length + (Lib.trimLeftB ((readN s).1.whole ++ (readN s).1.rest) 48).length - (Lib.trimRightB (Lib.trimLeftB ((readN s).1.whole ++ (readN s).1.rest) 48) 48).length⟩))) rfl (fun hc6 => ?_) (fun hc6 => ?_)
            ·
              refine c_ift rfl ?_
              refine c_seq ?_
              refine c_region ?_
              refine o_val (w' := w) (v := .agg #[.bool false, .string (bs ([])), .int .i64 (0)]) (by kernel_rfl) ?_
              refine o_store 3 (l := [.bool false, .string (bs ([])), .int .i64 (0)]) (cs' := #[.bool false, .string (bs ([])), .int .i64 (0)]) hF Tryz.sizeOf65 rfl (v := .agg #[.bool false, .string (bs ([])), .int .i64 (0)]) rfl rfl (by simp [one]) rfl (Nat.le_of_ble_eq_true rfl) rfl ?_
              clear hF; intro w hF hE
              clear hE
              replace hF : FR w0 [] [(b4, .cells #[.bool ((readN s).1.neg), .string (bs ((Lib.trimRightB (Lib.trimLeftB ((readN s).1.whole ++ (readN s).1.rest) 48) 48))), .int .i64 ((((expE s : Int) - ((((readN s).1.rest) : Str).length : Int) : Int) + ((((Lib.trimLeftB ((readN s).1.whole ++ (readN s).1.rest) 48)) : Str).length : Int) : Int) - ((((Lib.trimRightB (Lib.trimLeftB ((readN s).1.whole ++ (readN s).1.rest) 48) 48)) : Str).length : Int))] 65), (b3, .stringIter (bs ((Lib.trimLeftB (readN s).1.exp 48))) (q)), (b2, .cells #[.bool ((readN s).1.neg), .bool ((readN s).1.low), .string (bs ((readN s).1.whole)), .string (bs ((readN s).1.rest)), .string (bs ((readN s).1.exp))] 109), (b1, .cells #[.bool false, .string (bs ([])), .int .i64 (0)] 65)] w := hF
              refine o_val (v := .int .i64 (4)) (x_assign rfl) ?_
              refine o_nil ?_
              refine e_seq ?_
              refine c_ret (e_ret (post_ret (res_ct rfl (l := [.bool false, .string (bs ([])), .int .i64 (0)]) rfl Tryz.isAgg65 Tryz.sizeOf65 rfl (hF.cellsAll 3 rfl) (v := .int .i64 (4)) rfl) ?_))
              exact ⟨by rw [parseN_eq, if_neg (by simpa using hc0), if_neg (by omega), if_neg (by omega), if_neg hc5, if_pos (by simpa using hc6)]; rfl, hF.same⟩
            ·
              refine c_iff rfl ?_
              refine c_skip ?_
              refine e_seq ?_
              refine c_seq ?_
              refine c_region ?_
              refine o_val (v := .agg #[.bool ((readN s).1.neg), .string (bs ((Lib.trimRightB (Lib.trimLeftB ((readN s).1.whole ++ (readN s).1.rest) 48) 48))), .int .i64 ((((expE s : Int) - ((((readN s).1.rest) : Str).length : Int) : Int) + ((((Lib.trimLeftB ((readN s).1.whole ++ (readN s).1.rest) 48)) : Str).length : Int) : Int) - ((((Lib.trimRightB (Lib.trimLeftB ((readN s).1.whole ++ (readN s).1.rest) 48) 48)) : Str).length : Int))]) (x_loadS (l := [.bool ((readN s).1.neg), .string (bs ((Lib.trimRightB (Lib.trimLeftB ((readN s).1.whole ++ (readN s).1.rest) 48) 48))), .int .i64 ((((expE s : Int) - ((((readN s).1.rest) : Str).length : Int) : Int) + ((((Lib.trimLeftB ((readN s).1.whole ++ (readN s).1.rest) 48)) : Str).length : Int) : Int) - ((((Lib.trimRightB (Lib.trimLeftB ((readN s).1.whole ++ (readN s).1.rest) 48) 48)) : Str).length : Int))]) Tryz.isAgg65 Tryz.sizeOf65 rfl rfl (hF.cellsAll 0 rfl)) ?_
              refine o_store 3 (l := [.bool ((readN s).1.neg), .string (bs ((Lib.trimRightB (Lib.trimLeftB ((readN s).1.whole ++ (readN s).1.rest) 48) 48))), .int .i64 ((((expE s : Int) - ((((readN s).1.rest) : Str).length : Int) : Int) + ((((Lib.trimLeftB ((readN s).1.whole ++ (readN s).1.rest) 48)) : Str).length : Int) : Int) - ((((Lib.trimRightB (Lib.trimLeftB ((readN s).1.whole ++ (readN s).1.rest) 48) 48)) : Str).length : Int))]) (cs' := #[.bool ((readN s).1.neg), .string (bs ((Lib.trimRightB (Lib.trimLeftB ((readN s).1.whole ++ (readN s).1.rest) 48) 48))), .int .i64 ((((expE s : Int) - ((((readN s).1.rest) : Str).length : Int) : Int) + ((((Lib.trimLeftB ((readN s).1.whole ++ (readN s).1.rest) 48)) : Str).length : Int) : Int) - ((((Lib.trimRightB (Lib.trimLeftB ((readN s).1.whole ++ (readN s).1.rest) 48) 48)) : Str).length : Int))]) hF Tryz.sizeOf65 rfl (v := .agg #[.bool ((readN s).1.neg), .string (bs ((Lib.trimRightB (Lib.trimLeftB ((readN s).1.whole ++ (readN s).1.rest) 48) 48))), .int .i64 ((((expE s : Int) - ((((readN s).1.rest) : Str).length : Int) : Int) + ((((Lib.trimLeftB ((readN s).1.whole ++ (readN s).1.rest) 48)) : Str).length : Int) : Int) - ((((Lib.trimRightB (Lib.trimLeftB ((readN s).1.whole ++ (readN s).1.rest) 48) 48)) : Str).length : Int))]) rfl rfl (by simp [one]) rfl (Nat.le_of_ble_eq_true rfl) rfl ?_
              clear hF; intro w hF hE
              clear hE
              replace hF : FR w0 [] [(b4, .cells #[.bool ((readN s).1.neg), .string (bs ((Lib.trimRightB (Lib.trimLeftB ((readN s).1.whole ++ (readN s).1.rest) 48) 48))), .int .i64 ((((expE s : Int) - ((((readN s).1.rest) : Str).length : Int) : Int) + ((((Lib.trimLeftB ((readN s).1.whole ++ (readN s).1.rest) 48)) : Str).length : Int) : Int) - ((((Lib.trimRightB (Lib.trimLeftB ((readN s).1.whole ++ (readN s).1.rest) 48) 48)) : Str).length : Int))] 65), (b3, .stringIter (bs ((Lib.trimLeftB (readN s).1.exp 48))) (q)), (b2, .cells #[.bool ((readN s).1.neg), .bool ((readN s).1.low), .string (bs ((readN s).1.whole)), .string (bs ((readN s).1.rest)), .string (bs ((readN s).1.exp))] 109), (b1, .cells #[.bool ((readN s).1.neg), .string (bs ((Lib.trimRightB (Lib.trimLeftB ((readN s).1.whole ++ (readN s).1.rest) 48) 48))), .int .i64 ((((expE s : Int) - ((((readN s).1.rest) : Str).length : Int) : Int) + ((((Lib.trimLeftB ((readN s).1.whole ++ (readN s).1.rest) 48)) : Str).length : Int) : Int) - ((((Lib.trimRightB (Lib.trimLeftB ((readN s).1.whole ++ (readN s).1.rest) 48) 48)) : Str).length : Int))] 65)] w := hF
              refine o_val (v := .int .i64 (0)) (x_assign rfl) ?_
              refine o_nil ?_
              refine e_seq ?_
              refine c_ret (e_ret (post_ret (res_ct rfl (l := [.bool ((readN s).1.neg), .string (bs ((Lib.trimRightB (Lib.trimLeftB ((readN s).1.whole ++ (readN s).1.rest) 48) 48))), .int .i64 ((((expE s : Int) - ((((readN s).1.rest) : Str).length : Int) : Int) + ((((Lib.trimLeftB ((readN s).1.whole ++ (readN s).1.rest) 48)) : Str).length : Int) : Int) - ((((Lib.trimRightB (Lib.trimLeftB ((readN s).1.whole ++ (readN s).1.rest) 48) 48)) : Str).length : Int))]) rfl Tryz.isAgg65 Tryz.sizeOf65 rfl (hF.cellsAll 3 rfl) (v := .int .i64 (0)) rfl) ?_))
              exact ⟨by rw [parseN_eq, if_neg (by simpa using hc0), if_neg (by omega), if_neg (by omega), if_neg hc5, if_neg (by simpa using hc6)]; rfl, hF.same⟩
end Go.Scarf
