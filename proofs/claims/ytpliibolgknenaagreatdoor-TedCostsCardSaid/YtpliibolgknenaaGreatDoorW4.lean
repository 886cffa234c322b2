/- A part of the proof. -/
import Derived.Test.YtpliibolgknenaaGreatDoorW2
import Derived.Test.YtpliibolgknenaaGreatDoorShelf2
import Derived.Test.YtpliibolgknenaaGreatDoorMem
import Derived.Lib.ValidLaws
import Derived.Lib.TrimUEq
import Derived.Lib.MapLaws
import Derived.Test.YtpliibolgknenaaGreatDoorMore
set_option linter.all false
namespace Go.Scarf
open Go.RowKit Go.Proofs
def decimalB (s : Str) : Bool := decide ((parseN s).2 = 0) && decide (textN (parseN s).1 = s)
def holeB (s : Str) : Bool := decimalB s && (intN (parseN s).1).2 && decide (0 ≤ (intN (parseN s).1).1)
theorem parseN_right (s : Str) : rightN (parseN s).1 = true := by
  rw [parseN_eq]
  repeat' split
  all_goals first | rfl | simp_all
theorem parseN_len (s : Str) : (parseN s).1.digits.length ≤ 1000 := (rightN_len (parseN_right s)).1
theorem decode_drop (s : Str) (q : Nat) : Lib.decodeL (s.drop q) = Utf8.decode (bs s) q := Lib.decodeL_drop (bs s) q
theorem decode_pos (s : Str) (q : Nat) : 1 ≤ (Utf8.decode (bs s) q).2 := by rw [← decode_drop]; exact Lib.decodeL_width _
theorem decode_end (s : Str) (q : Nat) (h : q < s.length) : q + (Utf8.decode (bs s) q).2 ≤ s.length := by
  have := Lib.decodeL_le (s.drop q) (by rw [ne_eq, List.drop_eq_nil_iff]; omega)
  rw [decode_drop, List.length_drop] at this
  omega
theorem valid_next (s : Str) (q : Nat) (h : q < s.length) (hv : Lib.validD (s.drop q) = false) (hn : ¬ ((Utf8.decode (bs s) q).1 = 65533 ∧ (Utf8.decode (bs s) q).2 = 1)) : Lib.validD (s.drop (q + (Utf8.decode (bs s) q).2)) = false := by
  rw [Lib.validD_step _ (by rw [ne_eq, List.drop_eq_nil_iff]; omega), decode_drop, if_neg hn, List.drop_drop] at hv
  exact hv
theorem decodeGo_drop (s : Str) (q : Nat) (h : q < s.length) : Lib.decodeGo (bs (s.drop q)) = Utf8.decode (bs s) q := by
  have h1 : (bs (s.drop q)).size ≠ 0 := by rw [bs_size, List.length_drop]; omega
  rw [Lib.decodeGo, if_neg h1]; exact decode_drop s q
theorem validString_c (s : Str) (hl : s.length ≤ 140737488355328) {w : World} (hG : Gl w) : Calls Tryz.prog 110 #[.string (bs s)] w (Ret fun v w' => v = .bool (Lib.validD s) ∧ Same [] w w') :=
  ret_below (Tryz.utf8_ValidString (bs s) w (by rw [bs_size]; omega) hG.tabs)
theorem decodeRune_c (s : Str) {w : World} (hG : Gl w) : Calls Tryz.prog 111 #[.string (bs s)] w (Ret fun v w' => v = .tuple #[.int .i32 (Lib.decodeGo (bs s)).1, .int .i64 (Lib.decodeGo (bs s)).2] ∧ Same [] w w') :=
  ret_below (Tryz.utf8_DecodeRuneInString (bs s) w hG.tabs)
set_option maxHeartbeats 1000000 in
set_option maxRecDepth 10000 in
theorem valid_c (s : Str) (hl : s.length ≤ 140737488355328) (w0 : World) (hG : Gl w0) : Calls Tryz.prog 87 #[.string (bs s)] w0 (Ret fun v w' => ∃ n, v = .tuple #[.int .i64 n, .bool (Lib.validD s)] ∧ Same [] w0 w') := by
  refine calls_start Tryz.func87 rfl Tryz.ntmps87 (Nat.le_of_ble_eq_true rfl) (args_1 _) ?_
  have hF := FR.start w0 []
  refine c_seq ?_
  refine c_region ?_
  refine o_val (x_assign rfl) ?_
  refine o_val (x_assign rfl) ?_
  refine o_nil ?_
  refine e_seq ?_
  refine c_seq ?_
  refine c_seq ?_
  refine c_region ?_
  refine o_val (x_move rfl) ?_
  refine o_call (validString_c s hl (hG.ext hF.same)) (x_call1 en_110 rfl rfl) ?_
  rintro _ w ⟨rfl, hE⟩
  replace hF := hF.ext hE
  clear hE
  refine o_nil ?_
  refine e_seq ?_
  refine c_split (d := 9) (b := Lib.validD s) rfl (fun hc0 => ?_) (fun hc0 => ?_)
  ·
    refine c_ift rfl ?_
    refine c_seq ?_
    refine c_region ?_
    refine o_val (x_move rfl) ?_
    refine o_val (v := .int .i64 ((((s) : Str).length : Int))) (x_len_string Tryz.underlying9 rfl) ?_
    refine o_val (x_assign rfl) ?_
    refine o_val (x_assign rfl) ?_
    refine o_nil ?_
    refine e_seq ?_
    refine c_ret (e_ret (post_ret (res_2 (v := .int .i64 ((((s) : Str).length : Int))) (x := .bool true) rfl rfl rfl) ?_))
    exact ⟨_, by rw [hc0], hF.same⟩
  ·
    refine c_iff rfl ?_
    refine c_skip ?_
    refine e_seq ?_
    refine c_seq ?_
    refine c_seq ?_
    refine c_region ?_
    refine o_val (x_move rfl) ?_
    refine o_rangeS (str := s) hF Tryz.underlying9 rfl ?_
    clear hF; intro b1 w hb1 hF hE
    clear hE
    refine o_nil ?_
    refine e_seq ?_
    refine c_block ?_
    refine c_loop (fun μ σ w => ∃ (q : Nat), μ = s.length - q ∧ (q ≤ s.length) ∧ (Lib.validD (s.drop q) = false) ∧ AllEq σ [(0, .string (bs (s))), (13, .pointer (some ⟨b1, 0, none⟩))] ∧ FR w0 [] [(b1, .stringIter (bs (s)) (q))] w) _ ⟨0, rfl, (Nat.zero_le _), (by simpa using hc0), ⟨rfl, rfl, trivial⟩, hF⟩ ?_
    clear hF; rintro μ σ w ⟨q, rfl, hq, hv, hs, hF⟩
    refine Cg.slots hs ?_
    clear hs; intro σ
    refine c_seq ?_
    refine c_region ?_
    by_cases hn0 : (q) < (s : Str).length
    ·
      refine o_nextS 0 (p := q) (str := s) hF rfl rfl hn0 ?_
      clear hF; intro w hF hE
      clear hE
      replace hF : FR w0 [] [(b1, .stringIter (bs (s)) (q + (Utf8.decode (bs (s)) (q)).2))] w := hF
      refine o_val (x_extract rfl rfl) ?_
      refine o_nil ?_
      refine e_seq ?_
      refine c_seq ?_
      refine c_ift rfl ?_
      refine c_skip ?_
      refine e_seq ?_
      refine c_block ?_
      refine c_seq ?_
      refine c_region ?_
      refine o_val (x_extract rfl rfl) ?_
      refine o_val (x_extract rfl rfl) ?_
      refine o_val (x_assign rfl) ?_
      refine o_val (x_assign rfl) ?_
      refine o_nil ?_
      refine e_seq ?_
      refine c_seq ?_
      refine c_seq ?_
      refine c_region ?_
      refine o_val (x_move rfl) ?_
      refine o_val (v := .bool (decide ((((Utf8.decode (bs (s)) (q)).1 : Int) : Int) ≠ (65533 : Int)))) (x_neq rfl rfl) ?_
      refine o_nil ?_
      refine e_seq ?_
      refine c_splitd (d := 19) (p := (((Utf8.decode (bs (s)) (q)).1 : Int) : Int) ≠ (65533 : Int)) rfl (fun hc2 => ?_) (fun hc2 => ?_)
      ·
        refine c_ift rfl ?_
        refine c_exit (e_exit rfl ?_)
        have h1 := decode_pos s q
        have hw : ¬ ((Utf8.decode (bs s) q).1 = 65533 ∧ (Utf8.decode (bs s) q).2 = 1) := by
          first
          | (intro hh; omega)
          | (rw [decodeGo_drop s q (by omega)] at hc3; intro hh; omega)
        refine e_inv ⟨_, ?_, q + (Utf8.decode (bs s) q).2, rfl, (decode_end s q (by omega)), (valid_next s q (by omega) hv hw), ⟨rfl, rfl, trivial⟩, hF⟩
        omega
      ·
        refine c_iff rfl ?_
        refine c_skip ?_
        refine e_seq ?_
        refine c_seq ?_
        refine c_region ?_
        refine o_val (x_move rfl) ?_
        refine o_val (x_move rfl) ?_
        refine o_val (v := .string (bs ((s : Str).drop (q)))) (x_sliceL (q) Tryz.underlying9 rfl rfl (by omega)) ?_
        refine o_call (decodeRune_c (s.drop q) (hG.ext hF.same)) (x_call1 en_111 rfl rfl) ?_
        rintro _ w ⟨rfl, hE⟩
        replace hF := hF.ext hE
        clear hE
        refine o_val (x_move rfl) ?_
        refine o_val (x_extract rfl rfl) ?_
        refine o_val (x_extract rfl rfl) ?_
        refine o_val (x_assign rfl) ?_
        refine o_val (x_assign rfl) ?_
        refine o_nil ?_
        refine e_seq ?_
        refine c_seq ?_
        refine c_region ?_
        refine o_val (x_move rfl) ?_
        refine o_val (v := .bool (decide (((Lib.decodeGo (bs (s.drop q))).2 : Int) = (1 : Int)))) (x_eql rfl rfl) ?_
        refine o_nil ?_
        refine e_seq ?_
        refine c_splitd (d := 28) (p := ((Lib.decodeGo (bs (s.drop q))).2 : Int) = (1 : Int)) rfl (fun hc3 => ?_) (fun hc3 => ?_)
        ·
          refine c_ift rfl ?_
          refine c_seq ?_
          refine c_region ?_
          refine o_val (x_move rfl) ?_
          refine o_val (x_assign rfl) ?_
          refine o_val (x_assign rfl) ?_
          refine o_nil ?_
          refine e_seq ?_
          refine c_ret (e_ret (post_ret (res_2 (v := .int .i64 (((q : Nat) : Int))) (x := .bool false) rfl rfl rfl) ?_))
          exact ⟨_, by rw [hc0], hF.same⟩
        ·
          refine c_iff rfl ?_
          refine c_skip ?_
          refine e_block ?_
          have h1 := decode_pos s q
          have hw : ¬ ((Utf8.decode (bs s) q).1 = 65533 ∧ (Utf8.decode (bs s) q).2 = 1) := by
            first
            | (intro hh; omega)
            | (rw [decodeGo_drop s q (by omega)] at hc3; intro hh; omega)
          refine e_inv ⟨_, ?_, q + (Utf8.decode (bs s) q).2, rfl, (decode_end s q (by omega)), (valid_next s q (by omega) hv hw), ⟨rfl, rfl, trivial⟩, hF⟩
          omega
    ·
      refine o_nextSend 0 (p := q) (str := s) hF rfl rfl hn0 ?_
      refine o_val (x_extract rfl rfl) ?_
      refine o_nil ?_
      refine e_seq ?_
      refine c_seq ?_
      refine c_iff rfl ?_
      refine c_exit (e_exit rfl ?_)
      refine e_seq ?_
      refine c_seq ?_
      refine c_region ?_
      refine o_val (x_move rfl) ?_
      refine o_val (v := .int .i64 ((((s) : Str).length : Int))) (x_len_string Tryz.underlying9 rfl) ?_
      refine o_val (x_assign rfl) ?_
      refine o_val (x_assign rfl) ?_
      refine o_nil ?_
      refine e_seq ?_
      refine c_ret (e_ret (post_ret (res_2 (v := .int .i64 ((((s) : Str).length : Int))) (x := .bool true) rfl rfl rfl) ?_))
      have e : s.drop q = [] := List.drop_eq_nil_of_le (by omega)
      rw [e] at hv; cases hv
set_option maxHeartbeats 1000000 in
set_option maxRecDepth 10000 in
theorem plain_c (s : Str) (hl : s.length ≤ 140737488355328) (w0 : World) (hG : Gl w0) : Calls Tryz.prog 67 #[.string (bs s)] w0 (Ret fun v w' => v = .bool (Lib.validD s) ∧ Same [] w0 w') := by
 refine calls_start Tryz.func67 rfl Tryz.ntmps67 (Nat.le_of_ble_eq_true rfl) (args_1 _) ?_
 have hF := FR.start w0 []
 refine c_seq (c_region (o_val (x_assign rfl) (o_nil (e_seq (c_seq (c_region (o_val (x_move rfl) ?_)))))))
 refine o_call (valid_c s hl _ (hG.ext hF.same)) (x_call1 en_87 rfl rfl) ?_
 rintro _ w ⟨n, rfl, hE⟩
 replace hF := hF.ext hE
 clear hE
 refine o_val (x_move rfl) (o_val (x_extract rfl rfl) (o_val (x_extract rfl rfl) (o_val (x_assign rfl) (o_val (x_assign rfl) (o_nil (e_seq (c_seq (c_region (o_val (x_move rfl) (o_val (x_assign rfl) (o_nil (e_seq ?_))))))))))))
 refine c_ret (e_ret (post_ret (res_1 (v := .bool (Lib.validD s)) rfl rfl) ?_))
 exact ⟨rfl, hF.same⟩
set_option maxHeartbeats 1000000 in
set_option maxRecDepth 10000 in
theorem decimal_c (s : Str) (hl : s.length ≤ 140737488355328) (w0 : World) (hG : Gl w0) : Calls Tryz.prog 66 #[.string (bs s)] w0 (Ret fun v w' => v = .tuple #[numV (parseN s).1, .bool (decimalB s)] ∧ Same [] w0 w') := by
 refine calls_start Tryz.func66 rfl Tryz.ntmps66 (Nat.le_of_ble_eq_true rfl) (args_1 _) ?_
 have hF := FR.start w0 []
 refine c_seq (c_region ?_)
 refine o_alloc (cs := #[.bool false, .string (bs ([])), .int .i64 (0)]) hF Tryz.zeroValue72 rfl ?_
 clear hF; rintro b1 w hb1 hF -
 refine o_val (x_assign rfl) (o_nil (e_seq (c_seq (c_region (o_val (x_move rfl) ?_)))))
 refine o_call (parse_c s hl _) (x_call1 en_60 rfl rfl) ?_
 rintro _ w ⟨rfl, hE⟩
 replace hF := hF.ext hE
 clear hE
 refine o_val (x_move rfl) (o_val (x_extract rfl rfl) (o_val (x_extract rfl rfl) ?_))
 refine o_lay (l := [.bool ((parseN s).1.neg), .string (bs ((parseN s).1.digits)), .int .i64 ((parseN s).1.exp)]) hF Tryz.zeroValue72 Tryz.sizeOf72 rfl (v := .agg #[.bool ((parseN s).1.neg), .string (bs ((parseN s).1.digits)), .int .i64 ((parseN s).1.exp)]) rfl rfl (by simp [one]) rfl ?_
 clear hF; rintro b2 w hb2 hF -
 refine o_val (x_assign rfl) (o_nil (e_seq (c_seq ?_)))
 refine c_drawF [] (.free 0 (.free 1 (.free 2 (.free 3 (.free 4 (.free 6 (.act 5 (.free 7 (.free 8 (.act 9 (.free 10 .nil))))))))))) (by kernel_rfl) hF (by kernel_rfl) (by kernel_rfl) ?_
 clear hF; rintro w hF -
 refine ⟨fun wq => FR w0 [] [(b2, .cells #[.bool ((parseN s).1.neg), .string (bs ((parseN s).1.digits)), .int .i64 ((parseN s).1.exp)] 72)] wq, hF.sub (.cons_cons _ (.cons _ .slnil)), ?_⟩
 refine f_free rfl (v := .agg #[.bool ((parseN s).1.neg), .string (bs ((parseN s).1.digits)), .int .i64 ((parseN s).1.exp)]) (fun w hC => x_loadS (l := [.bool ((parseN s).1.neg), .string (bs ((parseN s).1.digits)), .int .i64 ((parseN s).1.exp)]) Tryz.isAgg72 Tryz.sizeOf72 rfl rfl (hC.cellsAll 0 rfl)) (f_free rfl (v := .int .i64 ((parseN s).2)) (fun w hC => x_move rfl) (f_free rfl (v := .bool (decide (((parseN s).2 : Int) = (0 : Int)))) (fun w hC => x_eql rfl rfl) (f_free rfl (v := .bool (decide (((parseN s).2 : Int) = (0 : Int)))) (fun w hC => x_move rfl) ?_)))
 refine d_splitd (d := 14) (p := ((parseN s).2 : Int) = (0 : Int)) rfl (fun hg0 => ?_) (fun hg0 => ?_)
 refine f_free rfl (v := .agg #[.bool ((parseN s).1.neg), .string (bs ((parseN s).1.digits)), .int .i64 ((parseN s).1.exp)]) (fun w hC => x_loadS (l := [.bool ((parseN s).1.neg), .string (bs ((parseN s).1.digits)), .int .i64 ((parseN s).1.exp)]) Tryz.isAgg72 Tryz.sizeOf72 rfl rfl (hC.cellsAll 0 rfl)) (f_free rfl (v := .string (bs (s))) (fun w hC => x_move rfl) ?_)
 refine f_call rfl (text_c (parseN s).1 (by have := parseN_len s; omega) _ (hG.ext hF.same)) (x_call1 en_37 rfl rfl) ?_
 rintro _ w ⟨rfl, hE⟩
 replace hF := hF.ext hE
 clear hE
 refine ⟨hF.sub (.cons_cons _ (.cons _ .slnil)), ?_⟩
 refine f_free rfl (v := .bool (decide ((textN (parseN s).1 : Str) = s))) (fun w hC => x_eqls rfl rfl) (f_free rfl (v := .bool (decide ((textN (parseN s).1 : Str) = s))) (fun w hC => x_pickt rfl rfl) ?_)
 refine f_store rfl 1 (l := [.bool ((parseN s).1.neg), .string (bs ((parseN s).1.digits)), .int .i64 ((parseN s).1.exp)]) (cs' := #[.bool ((parseN s).1.neg), .string (bs ((parseN s).1.digits)), .int .i64 ((parseN s).1.exp)]) hF Tryz.sizeOf72 rfl (v := .agg #[.bool ((parseN s).1.neg), .string (bs ((parseN s).1.digits)), .int .i64 ((parseN s).1.exp)]) rfl rfl (by simp [one]) rfl (Nat.le_of_ble_eq_true rfl) rfl ?_
 clear hF; rintro w hF -
 replace hF : FR w0 [] [(b2, .cells #[.bool ((parseN s).1.neg), .string (bs ((parseN s).1.digits)), .int .i64 ((parseN s).1.exp)] 72), (b1, .cells #[.bool ((parseN s).1.neg), .string (bs ((parseN s).1.digits)), .int .i64 ((parseN s).1.exp)] 72)] w := hF
 refine ⟨hF.sub (.cons_cons _ (.cons _ .slnil)), ?_⟩
 refine f_free rfl (v := .bool (decide ((textN (parseN s).1 : Str) = s))) (fun w hC => x_assign rfl) (d_nil (e_seq ?_))
 refine c_ret (e_ret (post_ret (res_ct rfl (l := [.bool ((parseN s).1.neg), .string (bs ((parseN s).1.digits)), .int .i64 ((parseN s).1.exp)]) rfl Tryz.isAgg72 Tryz.sizeOf72 rfl (hF.cellsAll 1 rfl) (v := .bool (decide ((textN (parseN s).1 : Str) = s))) rfl) ?_))
 exact ⟨by simp_all [decimalB, numV], hF.same⟩
 refine f_off rfl ?_
 refine f_off rfl ?_
 refine f_skip rfl ?_ (hF.sub (.cons_cons _ (.cons _ .slnil)))
 refine f_off rfl ?_
 refine f_free rfl (v := .bool false) (fun w hC => x_pickf rfl rfl) ?_
 refine f_store rfl 1 (l := [.bool ((parseN s).1.neg), .string (bs ((parseN s).1.digits)), .int .i64 ((parseN s).1.exp)]) (cs' := #[.bool ((parseN s).1.neg), .string (bs ((parseN s).1.digits)), .int .i64 ((parseN s).1.exp)]) hF Tryz.sizeOf72 rfl (v := .agg #[.bool ((parseN s).1.neg), .string (bs ((parseN s).1.digits)), .int .i64 ((parseN s).1.exp)]) rfl rfl (by simp [one]) rfl (Nat.le_of_ble_eq_true rfl) rfl ?_
 clear hF; rintro w hF -
 replace hF : FR w0 [] [(b2, .cells #[.bool ((parseN s).1.neg), .string (bs ((parseN s).1.digits)), .int .i64 ((parseN s).1.exp)] 72), (b1, .cells #[.bool ((parseN s).1.neg), .string (bs ((parseN s).1.digits)), .int .i64 ((parseN s).1.exp)] 72)] w := hF
 refine ⟨hF.sub (.cons_cons _ (.cons _ .slnil)), ?_⟩
 refine f_free rfl (v := .bool false) (fun w hC => x_assign rfl) (d_nil (e_seq ?_))
 refine c_ret (e_ret (post_ret (res_ct rfl (l := [.bool ((parseN s).1.neg), .string (bs ((parseN s).1.digits)), .int .i64 ((parseN s).1.exp)]) rfl Tryz.isAgg72 Tryz.sizeOf72 rfl (hF.cellsAll 1 rfl) (v := .bool false) rfl) ?_))
 exact ⟨by simp_all [decimalB, numV], hF.same⟩
set_option maxHeartbeats 1000000 in
set_option maxRecDepth 10000 in
theorem hole_c (s : Str) (hl : s.length ≤ 140737488355328) (w0 : World) (hG : Gl w0) : Calls Tryz.prog 68 #[.string (bs s)] w0 (Ret fun v w' => v = .bool (holeB s) ∧ Same [] w0 w') := by
 refine calls_start Tryz.func68 rfl Tryz.ntmps68 (Nat.le_of_ble_eq_true rfl) (args_1 _) ?_
 have hF := FR.start w0 []
 refine c_seq (c_region (o_val (x_assign rfl) (o_nil (e_seq (c_seq (c_region (o_val (x_move rfl) ?_)))))))
 refine o_call (decimal_c s hl _ (hG.ext hF.same)) (x_call1 en_66 rfl rfl) ?_
 rintro _ w ⟨rfl, hE⟩
 replace hF := hF.ext hE
 clear hE
 refine o_val (x_move rfl) (o_val (x_extract rfl rfl) (o_val (x_extract rfl rfl) ?_))
 refine o_lay (l := [.bool ((parseN s).1.neg), .string (bs ((parseN s).1.digits)), .int .i64 ((parseN s).1.exp)]) hF Tryz.zeroValue72 Tryz.sizeOf72 rfl (v := .agg #[.bool ((parseN s).1.neg), .string (bs ((parseN s).1.digits)), .int .i64 ((parseN s).1.exp)]) rfl rfl (by simp [one]) rfl ?_
 clear hF; rintro b1 w hb1 hF -
 refine o_val (x_assign rfl) (o_nil (e_seq (c_seq (c_region (o_val (v := .agg #[.bool ((parseN s).1.neg), .string (bs ((parseN s).1.digits)), .int .i64 ((parseN s).1.exp)]) (x_loadS (l := [.bool ((parseN s).1.neg), .string (bs ((parseN s).1.digits)), .int .i64 ((parseN s).1.exp)]) Tryz.isAgg72 Tryz.sizeOf72 rfl rfl (hF.cellsAll 0 rfl)) ?_)))))
 refine o_call (numInt_c (parseN s).1 (by have := parseN_len s; omega) _ (hG.ext hF.same)) (x_call1 en_88 rfl rfl) ?_
 rintro _ w ⟨rfl, hE⟩
 replace hF := hF.ext hE
 clear hE
 refine o_val (x_move rfl) (o_val (x_extract rfl rfl) (o_val (x_extract rfl rfl) (o_val (x_assign rfl) (o_val (x_assign rfl) (o_nil (e_seq (c_seq (c_region (o_val (x_move rfl) (o_val (x_move rfl) ?_))))))))))
 refine o_split (d := 18) (b := decimalB s) rfl (fun hg0 => ?_) (fun hg0 => ?_)
 refine o_val (x_move rfl) (o_val (x_pickt rfl rfl) (o_val (x_move rfl) ?_))
 refine o_split (d := 21) (b := (intN (parseN s).1).2) rfl (fun hg1 => ?_) (fun hg1 => ?_)
 refine o_val (x_move rfl) (o_val (v := .bool (decide ((0 : Int) ≤ ((intN (parseN s).1).1 : Int)))) (x_geq rfl rfl) (o_val (x_pickt rfl rfl) (o_val (x_assign rfl) (o_nil (e_seq ?_)))))
 refine c_ret (e_ret (post_ret (res_1 (v := .bool (decide ((0 : Int) ≤ ((intN (parseN s).1).1 : Int)))) rfl rfl) ?_))
 exact ⟨by simp_all [holeB], hF.same⟩
 refine o_off (o_off (o_val (x_pickf rfl rfl) (o_val (x_assign rfl) (o_nil (e_seq ?_)))))
 refine c_ret (e_ret (post_ret (res_1 (v := .bool false) rfl rfl) ?_))
 exact ⟨by simp_all [holeB], hF.same⟩
 refine o_off (o_val (x_pickf rfl rfl) (o_val (x_move rfl) (o_off (o_off (o_val (x_pickf rfl rfl) (o_val (x_assign rfl) (o_nil (e_seq ?_))))))))
 refine c_ret (e_ret (post_ret (res_1 (v := .bool false) rfl rfl) ?_))
 exact ⟨by simp_all [holeB], hF.same⟩
end Go.Scarf
namespace Go.Scarf
open Go.RowKit Go.Proofs
def keyedB (ks : List Str) (n : Int) : Bool := decide ks.Nodup && ks.all Lib.validD && decide ((ks.length : Int) = n)
def keysM (ks : List Str) : MapL := ks.map fun k => (k, .bool true)
theorem lookM_keys (ks : List Str) (k : Str) : lookM (keysM ks) k = if k ∈ ks then some (.bool true) else none := by
  induction ks with
  | nil => rfl
  | cons a r ih =>
    have e : keysM (a :: r) = [(a, .bool true)] ++ keysM r := rfl
    rw [e, lookM_append, ih]
    by_cases h : a = k
    · subst h; simp [lookM]
    · have h' : ¬ k = a := fun e => h e.symm
      simp [lookM, h, h']
theorem keysM_take (ks : List Str) (j : Nat) (h : j < ks.length) : keysM (ks.take j) ++ [(ks[j], .bool true)] = keysM (ks.take (j + 1)) := by
  unfold keysM; rw [List.take_succ_eq_append_getElem h, List.map_append]; rfl
theorem nodup_take_succ {ks : List Str} {j : Nat} (h : j < ks.length) (hn : (ks.take j).Nodup) (hi : ¬ ks[j] ∈ ks.take j) : (ks.take (j + 1)).Nodup := by
  rw [List.take_succ_eq_append_getElem h, List.nodup_append]
  refine ⟨hn, by simp, ?_⟩
  intro a ha b hb e
  simp only [List.mem_singleton] at hb
  subst e; subst hb; exact hi ha
theorem not_nodup_of {ks : List Str} {j : Nat} (h : j < ks.length) (hi : ks[j] ∈ ks.take j) : ¬ ks.Nodup := by
  intro hn
  obtain ⟨i, hi', he⟩ := List.getElem_of_mem hi
  rw [List.getElem_take] at he
  have hi2 : i < j := by rw [List.length_take] at hi'; omega
  have := (List.pairwise_iff_getElem.1 hn) i j (by omega) h hi2
  exact this he
theorem take_succ_all {f : Str → Bool} {ks : List Str} {j : Nat} (h : j < ks.length) (ha : (ks.take j).all f = true) (hv : f ks[j] = true) : (ks.take (j + 1)).all f = true := by
  rw [List.take_succ_eq_append_getElem h, List.all_append, ha]; simp [hv]
theorem not_all {f : Str → Bool} {ks : List Str} {j : Nat} (h : j < ks.length) (hv : f ks[j] = false) : ks.all f = false := by
  rw [Bool.eq_false_iff]; intro ha
  have := List.all_eq_true.1 ha ks[j] (List.getElem_mem h)
  rw [hv] at this; cases this
set_option maxHeartbeats 1000000 in
set_option maxRecDepth 10000 in
theorem keyed_c (ks : List Str) (n : Int) (S : Nat → Prop) (A : Option Addr) (c : Nat) (hl : ∀ k ∈ ks, k.length ≤ 140737488355328) (w0 : World) (hG : Gl w0) (hX : Rep S w0 (strsD ks) [.slice A ks.length c]) : Calls Tryz.prog 65 #[.slice A ks.length c, .int .i64 n] w0 (Ret fun v w' => v = .bool (keyedB ks n) ∧ Same [] w0 w') := by
 have hXl := hX.slice_len
 refine calls_start Tryz.func65 rfl Tryz.ntmps65 (Nat.le_of_ble_eq_true rfl) (args_2 _ _) ?_
 have hF := FR.start w0 []
 refine c_seq (c_region (o_val (x_assign rfl) (o_nil (e_seq (c_seq (c_region (o_val (x_move rfl) (o_val (v := .int .i64 ((ks.length : Nat))) (x_len_slice Tryz.underlying22 rfl) ?_))))))))
 refine o_new (v := fun b => .map (some b)) hF (x_makeMap Tryz.underlying115 rfl) ?_
 clear hF; rintro b1 w hb1 hF -
 refine o_val (x_assign rfl) (o_nil (e_seq (c_seq (c_seq (c_region (o_val (x_move rfl) (o_val (v := .int .i64 ((ks.length : Nat))) (x_len_slice Tryz.underlying22 rfl) (o_val (x_move rfl) (o_nil (e_seq (c_block ?_)))))))))))
 replace hF : FR w0 [] [(b1, mapO (keysM (ks.take 0)))] w := hF
 refine c_loop (fun μ σ w => ∃ (j : Nat), μ = ks.length - j ∧ (j ≤ ks.length) ∧ ((ks.take j).Nodup) ∧ ((ks.take j).all Lib.validD = true) ∧ AllEq σ [(0, .slice (A) (ks.length) (c)), (1, .int .i64 (n)), (5, .map (some b1)), (11, .slice (A) (ks.length) (c)), (12, .int .i64 ((ks.length : Nat))), (13, .int .i64 ((j : Int)))] ∧ FR w0 [] [(b1, mapO (keysM (ks.take j)))] w) _ ⟨0, rfl, (Nat.zero_le _), (by simp), (by simp), ⟨rfl, rfl, rfl, rfl, rfl, rfl, trivial⟩, hF⟩ ?_
 clear hF; rintro μ σ w ⟨j, rfl, hj, hd, hv, hs, hF⟩
 refine Cg.slots hs ?_
 clear hs; intro σ
 refine c_seq (c_region (o_val (v := .bool (decide (((j : Int) : Int) < ((ks.length : Nat) : Int)))) (x_lss rfl rfl) (o_nil (e_seq (c_seq ?_)))))
 refine c_splitd (d := 14) (p := ((j : Int) : Int) < ((ks.length : Nat) : Int)) rfl (fun hc0 => ?_) (fun hc0 => ?_)
 refine c_ift rfl (c_skip (e_seq (c_seq (c_block (c_seq (c_region ?_))))))
 obtain ⟨ad0, hA0, hk0, hx0⟩ := hX.str_elem (i := j) (by omega)
 refine o_val (v := .pointer (some (ad0.add (j * 1)))) (x_indexAddrA (i := (j : Int)) sl_22 rfl hA0 rfl (by omega) (by omega)) (o_val (v := .string (bs (ks[j]))) (x_load Tryz.isAgg9 rfl (hF.cell0 hk0)) (o_val (x_assign rfl) (o_nil (e_seq (c_seq (c_seq (c_region (o_val (x_move rfl) (o_val (x_move rfl) ?_)))))))))
 refine o_val (v := .bool (decide (ks[j] ∈ ks.take j))) (x_lookupE Tryz.underlying115 Tryz.underlying9 Tryz.zeroValue4 rfl rfl (hF.heap (i := 0) rfl) (by rw [lookM_keys]; split <;> rename_i hh <;> simp only [hh, decide_true, decide_false] <;> rfl)) ?_
 refine o_val (x_move rfl) ?_
 refine o_splitd (d := 20) (p := ks[j] ∈ ks.take j) rfl (fun hg1 => ?_) (fun hg1 => ?_)
 refine o_off (o_off (o_off (o_val (x_pickt rfl rfl) (o_nil (e_seq (c_ift rfl (c_seq (c_region (o_val (x_assign rfl) (o_nil (e_seq ?_)))))))))))
 refine c_ret (e_ret (post_ret (res_1 (v := .bool false) rfl rfl) ?_))
 have := not_nodup_of (ks := ks) (j := j) (by omega) (by assumption)
 exact ⟨congrArg Value.bool (by unfold keyedB; rw [decide_eq_false this]; rfl), hF.same⟩
 refine o_val (x_move rfl) ?_
 refine o_call (plain_c ks[j] (hl _ (List.getElem_mem _)) _ (hG.ext hF.same)) (x_call1 en_67 rfl rfl) ?_
 rintro _ w ⟨rfl, hE⟩
 replace hF := hF.ext hE
 clear hE
 refine o_val (v := .bool (!(Lib.validD ks[j]))) (x_not rfl) (o_val (x_pickf rfl rfl) (o_nil (e_seq ?_)))
 refine c_split (d := 24) (b := !(Lib.validD ks[j])) rfl (fun hc1 => ?_) (fun hc1 => ?_)
 refine c_ift rfl (c_seq (c_region (o_val (x_assign rfl) (o_nil (e_seq ?_)))))
 refine c_ret (e_ret (post_ret (res_1 (v := .bool false) rfl rfl) ?_))
 have := not_all (f := Lib.validD) (ks := ks) (j := j) (by omega) (by simpa using hc1)
 exact ⟨congrArg Value.bool (by unfold keyedB; rw [this, Bool.and_false]; rfl), hF.same⟩
 refine c_iff rfl (c_skip (e_seq (c_region (o_val (x_move rfl) (o_val (x_move rfl) ?_)))))
 refine o_mapUpdate 0 (v := .bool true) hF Tryz.underlying115 Tryz.underlying9 rfl rfl rfl rfl (by rw [lookM_keys, if_neg (by assumption)]) ?_
 clear hF; rintro w hF -
 rw [keysM_take ks j (by omega)] at hF
 replace hF : FR w0 [] [(b1, mapO (keysM (ks.take (j + 1))))] w := hF
 refine o_nil (e_block (e_seq (c_region (o_val (v := .int .i64 (((j : Int) : Int) + 1)) (x_add rfl rfl (wrap_id (by omega) (by omega))) (o_val (x_move rfl) (o_nil ?_))))))
 refine e_inv ⟨_, ?_, j + 1, rfl, (by omega), (nodup_take_succ (by omega) hd (by assumption)), (take_succ_all (by omega) hv (by simpa using hc1)), ⟨rfl, rfl, rfl, rfl, rfl, rfl, trivial⟩, hF⟩
 omega
 refine c_iff rfl ?_
 refine c_exit (e_exit rfl ?_)
 refine e_seq (c_seq (c_region (o_val (x_move rfl) (o_val (v := .int .i64 ((ks.length : Nat))) (x_len_slice Tryz.underlying22 rfl) (o_val (x_move rfl) (o_val (v := .bool (decide (((ks.length : Nat) : Int) = (n : Int)))) (x_eql rfl rfl) (o_val (x_assign rfl) (o_nil (e_seq ?_)))))))))
 refine c_ret (e_ret (post_ret (res_1 (v := .bool (decide (((ks.length : Nat) : Int) = (n : Int)))) rfl rfl) ?_))
 obtain rfl : j = ks.length := by omega
 rw [List.take_length] at hd hv
 exact ⟨congrArg Value.bool (by unfold keyedB; rw [hv, decide_eq_true hd]; rfl), hF.same⟩
end Go.Scarf
namespace Go.Scarf
open Go.RowKit Go.Proofs
mutual
def okT : Tree → Prop | .node _ t ks xs => t.length ≤ 140737488355328 ∧ (∀ k ∈ ks, k.length ≤ 140737488355328) ∧ okTs xs
def okTs : List Tree → Prop | [] => True | x :: xs => okT x ∧ okTs xs
end
theorem okTs_mem : ∀ {xs : List Tree}, okTs xs → ∀ x ∈ xs, okT x
  | [], _, _, h => absurd h (by simp)
  | y :: ys, h, x, hx => by
    rw [okTs] at h
    rcases List.mem_cons.1 hx with rfl | hx
    · exact h.1
    · exact okTs_mem h.2 x hx
def nodeB : Tree → Bool
  | .node k t ks xs =>
    if k = 5 then decide (ks = []) && decide (t = []) else
    if k = 6 then keyedB ks xs.length && decide (t = []) else
    if ks ≠ [] ∨ xs ≠ [] then false else
    if k = 1 then decide (t = []) else
    if k = 2 then decide (t = [116, 114, 117, 101]) || decide (t = [102, 97, 108, 115, 101]) else
    if k = 3 then decimalB t else if k = 4 then Lib.validD t else if k = 7 then holeB t else false
def PredC (g : Nat) (q : Tree → Bool) : Prop := ∀ (x : Tree) (S : Nat → Prop) (w0 : World) (cs : List Value), Rep S w0 (treeD x) cs → okT x → Gl w0 → Calls Tryz.prog g #[.agg cs.toArray] w0 (Ret fun v w' => v = .bool (q x) ∧ Same [] w0 w')
set_option maxHeartbeats 4000000 in
set_option maxRecDepth 10000 in
theorem node_c  : PredC 42 nodeB := by
 rintro ⟨k, t, ks, xs⟩ S w0 cs hR hk hG
 obtain ⟨A, c, B, e, rfl, -, -, hK, hX⟩ := hR.tree_inv
 rw [okT] at hk
 refine calls_start Tryz.func42 rfl Tryz.ntmps42 (Nat.le_of_ble_eq_true rfl) (args_1 _) ?_
 have hF := FR.start w0 []
 refine c_seq (c_region ?_)
 refine o_box (v := .agg #[.int .i64 (k), .string (bs (t)), .slice (A) (ks.length) (c), .slice (B) (xs.length) (e)]) (cs := #[.int .i64 (k), .string (bs (t)), .slice (A) (ks.length) (c), .slice (B) (xs.length) (e)]) hF rfl rfl ?_
 clear hF; rintro b1 w hb1 hF -
 refine o_val (x_assign rfl) (o_nil (e_seq (c_seq ?_)))
 refine c_drawF [] (.free 0 (.free 1 (.free 2 (.free 3 (.free 4 (.free 5 (.free 6 (.free 7 (.free 8 (.free 9 .nil)))))))))) (by kernel_rfl) hF (by kernel_rfl) (by kernel_rfl) ?_
 clear hF; rintro w hF -
 refine ⟨fun wq => FR w0 [] [(b1, .cells #[.int .i64 (k), .string (bs (t)), .slice (A) (ks.length) (c), .slice (B) (xs.length) (e)] 25)] wq, hF, ?_⟩
 refine f_free rfl (v := .pointer (some ⟨b1, 2, none⟩)) (fun w hC => x_fieldAddrO fa_25_2 rfl) (f_free rfl (v := .slice (A) (ks.length) (c)) (fun w hC => x_load Tryz.isAgg22 rfl (hC.cell 0 rfl rfl)) (f_free rfl (v := .int .i64 ((ks.length : Nat))) (fun w hC => x_len_slice Tryz.underlying22 rfl) (f_free rfl (v := .bool (decide ((0 : Int) < ((ks.length : Nat) : Int)))) (fun w hC => x_gtr rfl rfl) (f_free rfl (v := .pointer (some ⟨b1, 3, none⟩)) (fun w hC => x_fieldAddrO fa_25_3 rfl) (f_free rfl (v := .slice (B) (xs.length) (e)) (fun w hC => x_load Tryz.isAgg23 rfl (hC.cell 0 rfl rfl)) (f_free rfl (v := .int .i64 ((xs.length : Nat))) (fun w hC => x_len_slice Tryz.underlying23 rfl) (f_free rfl (v := .bool (decide ((0 : Int) < ((xs.length : Nat) : Int)))) (fun w hC => x_gtr rfl rfl) (f_free rfl (v := .bool (decide ((0 : Int) < ((ks.length : Nat) : Int)))) (fun w hC => x_assign rfl) (f_free rfl (v := .bool (decide ((0 : Int) < ((xs.length : Nat) : Int)))) (fun w hC => x_assign rfl) (d_nil (e_seq (c_seq (c_seq ?_)))))))))))))
 refine c_region (o_val (v := .pointer (some ⟨b1, 0, none⟩)) (x_fieldAddrO fa_25_0 rfl) (o_val (v := .int .i64 (k)) (x_load Tryz.isAgg3 rfl (hF.cell 0 rfl rfl)) (o_nil (e_seq (c_block (c_seq (c_region (o_val (v := .bool (decide ((k : Int) = (5 : Int)))) (x_eql rfl rfl) (o_val (x_assign rfl) (o_nil (e_seq ?_)))))))))))
 refine c_splitd (d := 17) (p := (k : Int) = (5 : Int)) rfl (fun hc0 => ?_) (fun hc0 => ?_)
 refine c_ift rfl (c_seq (c_region (o_val (x_move rfl) (o_val (v := .bool (decide (¬ ((0 : Int) < ((ks.length : Nat) : Int))))) (x_notd rfl) (o_val (x_move rfl) ?_)))))
 refine o_splitd (d := 21) (p := ¬ ((0 : Int) < ((ks.length : Nat) : Int))) rfl (fun hg0 => ?_) (fun hg0 => ?_)
 refine o_val (v := .pointer (some ⟨b1, 1, none⟩)) (x_fieldAddrO fa_25_1 rfl) (o_val (v := .string (bs (t))) (x_load Tryz.isAgg9 rfl (hF.cell 0 rfl rfl)) (o_val (v := .bool (decide ((t : Str) = []))) (x_eqls rfl rfl) (o_val (x_pickt rfl rfl) (o_val (x_assign rfl) (o_nil (e_seq ?_))))))
 refine c_ret (e_ret (post_ret (res_1 (v := .bool (decide ((t : Str) = []))) rfl rfl) ?_))
 refine ⟨?_, hF.same⟩
 clear hF hR hK hX hb1
 simp_all [nodeB, List.length_pos_iff]
 refine o_off (o_off (o_off (o_val (x_pickf rfl rfl) (o_val (x_assign rfl) (o_nil (e_seq ?_))))))
 refine c_ret (e_ret (post_ret (res_1 (v := .bool false) rfl rfl) ?_))
 refine ⟨?_, hF.same⟩
 clear hF hR hK hX hb1
 simp_all [nodeB, List.length_pos_iff]
 refine c_iff rfl (c_seq (c_region (o_val (v := .bool (decide ((k : Int) = (6 : Int)))) (x_eql rfl rfl) (o_val (x_assign rfl) (o_nil (e_seq ?_))))))
 refine c_splitd (d := 26) (p := (k : Int) = (6 : Int)) rfl (fun hc1 => ?_) (fun hc1 => ?_)
 refine c_ift rfl (c_seq (c_region (o_val (v := .pointer (some ⟨b1, 2, none⟩)) (x_fieldAddrO fa_25_2 rfl) (o_val (v := .slice (A) (ks.length) (c)) (x_load Tryz.isAgg22 rfl (hF.cell 0 rfl rfl)) (o_val (v := .pointer (some ⟨b1, 3, none⟩)) (x_fieldAddrO fa_25_3 rfl) (o_val (v := .slice (B) (xs.length) (e)) (x_load Tryz.isAgg23 rfl (hF.cell 0 rfl rfl)) (o_val (v := .int .i64 ((xs.length : Nat))) (x_len_slice Tryz.underlying23 rfl) ?_)))))))
 refine o_call (keyed_c ks (xs.length : Nat) S A c (by simpa using hk.2.1) _ (hG.ext hF.same) (hF.rep hK)) (x_call2 en_65 rfl rfl rfl) ?_
 rintro _ w ⟨rfl, hE⟩
 replace hF := hF.ext hE
 clear hE
 refine o_val (x_move rfl) ?_
 refine o_split (d := 34) (b := keyedB ks (xs.length : Nat)) rfl (fun hg1 => ?_) (fun hg1 => ?_)
 refine o_val (v := .pointer (some ⟨b1, 1, none⟩)) (x_fieldAddrO fa_25_1 rfl) (o_val (v := .string (bs (t))) (x_load Tryz.isAgg9 rfl (hF.cell 0 rfl rfl)) (o_val (v := .bool (decide ((t : Str) = []))) (x_eqls rfl rfl) (o_val (x_pickt rfl rfl) (o_val (x_assign rfl) (o_nil (e_seq ?_))))))
 refine c_ret (e_ret (post_ret (res_1 (v := .bool (decide ((t : Str) = []))) rfl rfl) ?_))
 refine ⟨?_, hF.same⟩
 clear hF hR hK hX hb1
 simp_all [nodeB, List.length_pos_iff]
 refine o_off (o_off (o_off (o_val (x_pickf rfl rfl) (o_val (x_assign rfl) (o_nil (e_seq ?_))))))
 refine c_ret (e_ret (post_ret (res_1 (v := .bool false) rfl rfl) ?_))
 refine ⟨?_, hF.same⟩
 clear hF hR hK hX hb1
 simp_all [nodeB, List.length_pos_iff]
 refine c_iff rfl (c_skip (e_block (e_seq (c_seq (c_seq (c_region (o_val (x_move rfl) (o_val (x_move rfl) ?_))))))))
 refine o_splitd (d := 40) (p := (0 : Int) < ((ks.length : Nat) : Int)) rfl (fun hg2 => ?_) (fun hg2 => ?_)
 refine o_off (o_val (x_pickt rfl rfl) (o_nil (e_seq (c_ift rfl (c_seq (c_region (o_val (x_assign rfl) (o_nil (e_seq ?_)))))))))
 refine c_ret (e_ret (post_ret (res_1 (v := .bool false) rfl rfl) ?_))
 refine ⟨?_, hF.same⟩
 clear hF hR hK hX hb1
 simp_all [nodeB, List.length_pos_iff]
 refine o_val (x_move rfl) (o_val (x_pickf rfl rfl) (o_nil (e_seq ?_)))
 refine c_splitd (d := 42) (p := (0 : Int) < ((xs.length : Nat) : Int)) rfl (fun hc2 => ?_) (fun hc2 => ?_)
 refine c_ift rfl (c_seq (c_region (o_val (x_assign rfl) (o_nil (e_seq ?_)))))
 refine c_ret (e_ret (post_ret (res_1 (v := .bool false) rfl rfl) ?_))
 refine ⟨?_, hF.same⟩
 clear hF hR hK hX hb1
 simp_all [nodeB, List.length_pos_iff]
 refine c_iff rfl (c_skip (e_seq (c_seq (c_seq (c_region (o_val (v := .pointer (some ⟨b1, 0, none⟩)) (x_fieldAddrO fa_25_0 rfl) (o_val (v := .int .i64 (k)) (x_load Tryz.isAgg3 rfl (hF.cell 0 rfl rfl)) (o_nil (e_seq (c_block (c_seq (c_region (o_val (v := .bool (decide ((k : Int) = (1 : Int)))) (x_eql rfl rfl) ?_)))))))))))))
 refine o_val (x_assign rfl) (o_nil (e_seq ?_))
 refine c_splitd (d := 45) (p := (k : Int) = (1 : Int)) rfl (fun hc3 => ?_) (fun hc3 => ?_)
 refine c_ift rfl (c_seq (c_region (o_val (v := .pointer (some ⟨b1, 1, none⟩)) (x_fieldAddrO fa_25_1 rfl) (o_val (v := .string (bs (t))) (x_load Tryz.isAgg9 rfl (hF.cell 0 rfl rfl)) (o_val (v := .bool (decide ((t : Str) = []))) (x_eqls rfl rfl) (o_val (x_assign rfl) (o_nil (e_seq ?_))))))))
 refine c_ret (e_ret (post_ret (res_1 (v := .bool (decide ((t : Str) = []))) rfl rfl) ?_))
 refine ⟨?_, hF.same⟩
 clear hF hR hK hX hb1
 simp_all [nodeB, List.length_pos_iff]
 refine c_iff rfl (c_seq (c_region (o_val (v := .bool (decide ((k : Int) = (2 : Int)))) (x_eql rfl rfl) (o_val (x_assign rfl) (o_nil (e_seq ?_))))))
 refine c_splitd (d := 50) (p := (k : Int) = (2 : Int)) rfl (fun hc4 => ?_) (fun hc4 => ?_)
 refine c_ift rfl (c_seq (c_region (o_val (v := .pointer (some ⟨b1, 1, none⟩)) (x_fieldAddrO fa_25_1 rfl) (o_val (v := .string (bs (t))) (x_load Tryz.isAgg9 rfl (hF.cell 0 rfl rfl)) (o_val (v := .bool (decide ((t : Str) = [116, 114, 117, 101]))) (x_eqls rfl rfl) (o_val (x_move rfl) ?_))))))
 refine o_splitd (d := 55) (p := (t : Str) = [116, 114, 117, 101]) rfl (fun hg3 => ?_) (fun hg3 => ?_)
 refine o_off (o_off (o_off (o_val (x_pickt rfl rfl) (o_val (x_assign rfl) (o_nil (e_seq ?_))))))
 refine c_ret (e_ret (post_ret (res_1 (v := .bool true) rfl rfl) ?_))
 refine ⟨?_, hF.same⟩
 clear hF hR hK hX hb1
 simp_all [nodeB, List.length_pos_iff]
 refine o_val (v := .pointer (some ⟨b1, 1, none⟩)) (x_fieldAddrO fa_25_1 rfl) (o_val (v := .string (bs (t))) (x_load Tryz.isAgg9 rfl (hF.cell 0 rfl rfl)) (o_val (v := .bool (decide ((t : Str) = [102, 97, 108, 115, 101]))) (x_eqls rfl rfl) (o_val (x_pickf rfl rfl) (o_val (x_assign rfl) (o_nil (e_seq ?_))))))
 refine c_ret (e_ret (post_ret (res_1 (v := .bool (decide ((t : Str) = [102, 97, 108, 115, 101]))) rfl rfl) ?_))
 refine ⟨?_, hF.same⟩
 clear hF hR hK hX hb1
 simp_all [nodeB, List.length_pos_iff]
 refine c_iff rfl (c_seq (c_region (o_val (v := .bool (decide ((k : Int) = (3 : Int)))) (x_eql rfl rfl) (o_val (x_assign rfl) (o_nil (e_seq ?_))))))
 refine c_splitd (d := 60) (p := (k : Int) = (3 : Int)) rfl (fun hc5 => ?_) (fun hc5 => ?_)
 refine c_ift rfl (c_seq (c_region (o_val (v := .pointer (some ⟨b1, 1, none⟩)) (x_fieldAddrO fa_25_1 rfl) (o_val (v := .string (bs (t))) (x_load Tryz.isAgg9 rfl (hF.cell 0 rfl rfl)) ?_))))
 refine o_call (decimal_c t hk.1 _ (hG.ext hF.same)) (x_call1 en_66 rfl rfl) ?_
 rintro _ w ⟨rfl, hE⟩
 replace hF := hF.ext hE
 clear hE
 refine o_val (x_move rfl) (o_val (x_extract rfl rfl) (o_val (x_extract rfl rfl) ?_))
 refine o_lay (l := [.bool ((parseN t).1.neg), .string (bs ((parseN t).1.digits)), .int .i64 ((parseN t).1.exp)]) hF Tryz.zeroValue72 Tryz.sizeOf72 rfl (v := .agg #[.bool ((parseN t).1.neg), .string (bs ((parseN t).1.digits)), .int .i64 ((parseN t).1.exp)]) rfl rfl (by simp [one]) rfl ?_
 clear hF; rintro b2 w hb2 hF -
 refine o_val (x_assign rfl) (o_nil (e_seq (c_seq (c_region (o_val (x_move rfl) (o_val (x_assign rfl) (o_nil (e_seq ?_))))))))
 refine c_ret (e_ret (post_ret (res_1 (v := .bool (decimalB t)) rfl rfl) ?_))
 refine ⟨?_, hF.same⟩
 clear hF hR hK hX hb1
 simp_all [nodeB, List.length_pos_iff]
 refine c_iff rfl (c_seq (c_region (o_val (v := .bool (decide ((k : Int) = (4 : Int)))) (x_eql rfl rfl) (o_val (x_assign rfl) (o_nil (e_seq ?_))))))
 refine c_splitd (d := 69) (p := (k : Int) = (4 : Int)) rfl (fun hc6 => ?_) (fun hc6 => ?_)
 refine c_ift rfl (c_seq (c_region (o_val (v := .pointer (some ⟨b1, 1, none⟩)) (x_fieldAddrO fa_25_1 rfl) (o_val (v := .string (bs (t))) (x_load Tryz.isAgg9 rfl (hF.cell 0 rfl rfl)) ?_))))
 refine o_call (plain_c t hk.1 _ (hG.ext hF.same)) (x_call1 en_67 rfl rfl) ?_
 rintro _ w ⟨rfl, hE⟩
 replace hF := hF.ext hE
 clear hE
 refine o_val (x_assign rfl) (o_nil (e_seq ?_))
 refine c_ret (e_ret (post_ret (res_1 (v := .bool (Lib.validD t)) rfl rfl) ?_))
 refine ⟨?_, hF.same⟩
 clear hF hR hK hX hb1
 simp_all [nodeB, List.length_pos_iff]
 refine c_iff rfl (c_seq (c_region (o_val (v := .bool (decide ((k : Int) = (7 : Int)))) (x_eql rfl rfl) (o_val (x_assign rfl) (o_nil (e_seq ?_))))))
 refine c_splitd (d := 74) (p := (k : Int) = (7 : Int)) rfl (fun hc7 => ?_) (fun hc7 => ?_)
 refine c_ift rfl (c_seq (c_region (o_val (v := .pointer (some ⟨b1, 1, none⟩)) (x_fieldAddrO fa_25_1 rfl) (o_val (v := .string (bs (t))) (x_load Tryz.isAgg9 rfl (hF.cell 0 rfl rfl)) ?_))))
 refine o_call (hole_c t hk.1 _ (hG.ext hF.same)) (x_call1 en_68 rfl rfl) ?_
 rintro _ w ⟨rfl, hE⟩
 replace hF := hF.ext hE
 clear hE
 refine o_val (x_assign rfl) (o_nil (e_seq ?_))
 refine c_ret (e_ret (post_ret (res_1 (v := .bool (holeB t)) rfl rfl) ?_))
 refine ⟨?_, hF.same⟩
 clear hF hR hK hX hb1
 simp_all [nodeB, List.length_pos_iff]
 refine c_iff rfl (c_skip (e_block (e_seq (c_seq (c_region (o_val (x_assign rfl) (o_nil (e_seq ?_))))))))
 refine c_ret (e_ret (post_ret (res_1 (v := .bool false) rfl rfl) ?_))
 refine ⟨?_, hF.same⟩
 clear hF hR hK hX hb1
 simp_all [nodeB, List.length_pos_iff]
end Go.Scarf
namespace Go.Scarf
open Go.RowKit Go.Proofs
theorem Tree.ind {Q : Tree → Prop} (h : ∀ k t ks xs, (∀ x, x ∈ xs → Q x) → Q (.node k t ks xs)) (x : Tree) : Q x :=
  Tree.rec (motive_1 := Q) (motive_2 := fun xs => ∀ x, x ∈ xs → Q x) (fun k t ks xs ih => h k t ks xs ih) (by simp)
    (fun y ys h1 h2 => by
      intro z hz
      rcases List.mem_cons.1 hz with rfl | hz
      · exact h1
      · exact h2 z hz) x
mutual
def sizeT : Tree → Nat | .node _ _ _ xs => 1 + sizeTs xs
def sizeTs : List Tree → Nat | [] => 0 | x :: xs => sizeT x + sizeTs xs
end
mutual
def depthT : Tree → Nat | .node _ _ _ xs => depthTs xs + 1
def depthTs : List Tree → Nat | [] => 0 | x :: xs => max (depthT x) (depthTs xs)
end
theorem sizeTs_append : ∀ (xs ys : List Tree), sizeTs (xs ++ ys) = sizeTs xs + sizeTs ys
  | [], ys => by simp [sizeTs]
  | x :: xs, ys => by simp [sizeTs, sizeTs_append xs ys, Nat.add_assoc]
theorem depthTs_append : ∀ (xs ys : List Tree), depthTs (xs ++ ys) = max (depthTs xs) (depthTs ys)
  | [], ys => by simp [depthTs]
  | x :: xs, ys => by simp only [List.cons_append, depthTs, depthTs_append xs ys]; omega
theorem sizeTs_take (xs : List Tree) (j : Nat) (hj : j < xs.length) : sizeTs (xs.take (j+1)) = sizeTs (xs.take j) + sizeT xs[j] := by
  rw [List.take_succ_eq_append_getElem hj, sizeTs_append]; simp [sizeTs]
theorem depthTs_take (xs : List Tree) (j : Nat) (hj : j < xs.length) : depthTs (xs.take (j+1)) = max (depthTs (xs.take j)) (depthT xs[j]) := by
  rw [List.take_succ_eq_append_getElem hj, depthTs_append]; simp [depthTs]
theorem sizeTs_mem : ∀ {xs : List Tree} {x : Tree}, x ∈ xs → sizeT x ≤ sizeTs xs
  | [], _, h => absurd h (by simp)
  | y :: ys, x, h => by
    rw [sizeTs]
    rcases List.mem_cons.1 h with rfl | h
    · omega
    · have := sizeTs_mem h; omega
theorem sizeT_pos (x : Tree) : 1 ≤ sizeT x := by cases x; rw [sizeT]; omega
theorem sizeTs_len : ∀ (xs : List Tree), xs.length ≤ sizeTs xs
  | [] => by simp [sizeTs]
  | x :: xs => by have := sizeTs_len xs; have := sizeT_pos x; simp only [sizeTs, List.length_cons]; omega
theorem depth_le (x : Tree) : depthT x ≤ sizeT x := by
  refine Tree.ind (Q := fun x => depthT x ≤ sizeT x) (fun k t ks xs ih => ?_) x
  have : depthTs xs ≤ sizeTs xs := by
    induction xs with
    | nil => simp [depthTs, sizeTs]
    | cons y ys ihy =>
      have h1 := ih y (by simp)
      have h2 := ihy (fun z hz => ih z (by simp [hz]))
      simp only [depthTs, sizeTs]; omega
  simp only [depthT, sizeT]; omega
theorem depthTs_le (xs : List Tree) : depthTs xs ≤ sizeTs xs := by
  have := depth_le (.node 0 [] [] xs)
  simp only [depthT, sizeT] at this; omega
def SizeC (x : Tree) : Prop := ∀ S w0 cs, Rep S w0 (treeD x) cs → Calls Tryz.prog 61 #[.agg cs.toArray] w0 (Ret fun v w' => v = .int .i64 (wr (sizeT x)) ∧ Same [] w0 w')
set_option maxHeartbeats 1000000 in
set_option maxRecDepth 10000 in
theorem size_step (k : Int) (t : Str) (ks : List Str) (xs : List Tree) (ih : ∀ x, x ∈ xs → SizeC x) : SizeC (.node k t ks xs) := by
 intro S w0 cs hR
 obtain ⟨A, c, B, e, rfl, -, -, -, hX⟩ := hR.tree_inv
 have hXl := hX.slice_len
 refine calls_start Tryz.func61 rfl Tryz.ntmps61 (Nat.le_of_ble_eq_true rfl) (args_1 _) ?_
 have hF := FR.start w0 []
 refine c_seq (c_region ?_)
 refine o_box (v := .agg #[.int .i64 (k), .string (bs (t)), .slice (A) (ks.length) (c), .slice (B) (xs.length) (e)]) (cs := #[.int .i64 (k), .string (bs (t)), .slice (A) (ks.length) (c), .slice (B) (xs.length) (e)]) hF rfl rfl ?_
 clear hF; rintro b1 w hb1 hF -
 refine o_val (x_assign rfl) (o_nil (e_seq (c_seq (c_region (o_val (x_assign rfl) (o_nil (e_seq (c_seq (c_seq (c_region (o_val (v := .pointer (some ⟨b1, 3, none⟩)) (x_fieldAddrO fa_25_3 rfl) (o_val (v := .slice (B) (xs.length) (e)) (x_load Tryz.isAgg23 rfl (hF.cell 0 rfl rfl)) (o_val (v := .int .i64 ((xs.length : Nat))) (x_len_slice Tryz.underlying23 rfl) ?_)))))))))))))
 refine o_val (x_move rfl) (o_nil (e_seq (c_block ?_)))
 refine c_loop (fun μ σ w => ∃ (j : Nat), μ = xs.length - j ∧ (j ≤ xs.length) ∧ AllEq σ [(3, .int .i64 (wr (1 + sizeTs (xs.take j)))), (7, .slice (B) (xs.length) (e)), (8, .int .i64 ((xs.length : Nat))), (9, .int .i64 ((j : Int)))] ∧ FR w0 [] [(b1, .cells #[.int .i64 (k), .string (bs (t)), .slice (A) (ks.length) (c), .slice (B) (xs.length) (e)] 25)] w) _ ⟨0, rfl, (Nat.zero_le _), ⟨rfl, rfl, rfl, rfl, trivial⟩, hF⟩ ?_
 clear hF; rintro μ σ w ⟨j, rfl, hj, hs, hF⟩
 refine Cg.slots hs ?_
 clear hs; intro σ
 refine c_seq (c_region (o_val (v := .bool (decide (((j : Int) : Int) < ((xs.length : Nat) : Int)))) (x_lss rfl rfl) (o_nil (e_seq (c_seq ?_)))))
 refine c_splitd (d := 10) (p := ((j : Int) : Int) < ((xs.length : Nat) : Int)) rfl (fun hc0 => ?_) (fun hc0 => ?_)
 refine c_ift rfl (c_skip (e_seq (c_seq (c_block (c_seq (c_region ?_))))))
 obtain ⟨ad0, cs0, hA0, hl0, hk0, hx0⟩ := hX.tree_elem (i := j) (by omega)
 have ho0 := hx0.one_
 refine o_val (v := .pointer (some (ad0.add (j * 4)))) (x_indexAddrA (i := (j : Int)) sl_23 rfl hA0 rfl (by omega) (by omega)) (o_val (v := .agg (List.toArray cs0)) (x_loadS (l := cs0) Tryz.isAgg25 Tryz.sizeOf25 rfl hl0 (hF.cells0 hk0)) ?_)
 refine o_lay (l := cs0) hF Tryz.zeroValue25 (by rw [hl0]; exact Tryz.sizeOf25) (by rw [hl0]; rfl) (v := .agg (List.toArray cs0)) rfl rfl (ho0) rfl ?_
 clear hF; rintro b2 w hb2 hF -
 refine o_nil (e_seq (c_region (o_val (x_move rfl) (o_val (v := .agg (List.toArray cs0)) (x_loadS (l := cs0) Tryz.isAgg25 Tryz.sizeOf25 rfl hl0 (hF.cellsAll 0 rfl)) ?_))))
 refine o_call (ih _ (List.getElem_mem _) _ _ _ (hF.rep hx0)) (x_call1 en_61 rfl rfl) ?_
 rintro _ w ⟨rfl, hE⟩
 replace hF := hF.ext hE
 clear hE
 refine o_val (v := .int .i64 (wr (1 + sizeTs (xs.take (j + 1))))) (x_add rfl rfl (by rw [wr_wr_add, sizeTs_take xs j (by omega), Int.natCast_add, Int.add_assoc])) ?_
 refine o_val (x_assign rfl) (o_nil (e_block (e_seq (c_region (o_val (v := .int .i64 (((j : Int) : Int) + 1)) (x_add rfl rfl (wrap_id (by omega) (by omega))) (o_val (x_move rfl) (o_nil ?_)))))))
 refine e_inv ⟨_, ?_, j + 1, rfl, (by omega), ⟨rfl, rfl, rfl, rfl, trivial⟩, hF.drop 1⟩
 omega
 refine c_iff rfl ?_
 refine c_exit (e_exit rfl ?_)
 refine e_seq (c_seq (c_region (o_val (x_move rfl) (o_val (x_assign rfl) (o_nil (e_seq ?_))))))
 refine c_ret (e_ret (post_ret (res_1 (v := .int .i64 (wr (1 + sizeTs (xs.take j)))) rfl rfl) ?_))
 obtain rfl : j = xs.length := by omega
 exact ⟨by simp [sizeT], hF.same⟩
theorem size_c (x : Tree) : SizeC x := Tree.ind size_step x
def DepthC (x : Tree) : Prop := sizeT x ≤ 1000000000 → ∀ S w0 cs, Rep S w0 (treeD x) cs → Calls Tryz.prog 62 #[.agg cs.toArray] w0 (Ret fun v w' => v = .int .i64 (depthT x : Nat) ∧ Same [] w0 w')
set_option maxHeartbeats 1000000 in
set_option maxRecDepth 10000 in
theorem depth_step (k : Int) (t : Str) (ks : List Str) (xs : List Tree) (ih : ∀ x, x ∈ xs → DepthC x) : DepthC (.node k t ks xs) := by
 intro hsz S w0 cs hR
 obtain ⟨A, c, B, e, rfl, -, -, -, hX⟩ := hR.tree_inv
 have hXl := hX.slice_len
 have hdl := depthTs_le xs
 rw [sizeT] at hsz
 refine calls_start Tryz.func62 rfl Tryz.ntmps62 (Nat.le_of_ble_eq_true rfl) (args_1 _) ?_
 have hF := FR.start w0 []
 refine c_seq (c_region ?_)
 refine o_box (v := .agg #[.int .i64 (k), .string (bs (t)), .slice (A) (ks.length) (c), .slice (B) (xs.length) (e)]) (cs := #[.int .i64 (k), .string (bs (t)), .slice (A) (ks.length) (c), .slice (B) (xs.length) (e)]) hF rfl rfl ?_
 clear hF; rintro b1 w hb1 hF -
 refine o_val (x_assign rfl) (o_nil (e_seq (c_seq (c_region (o_val (x_assign rfl) (o_nil (e_seq (c_seq (c_seq (c_region (o_val (v := .pointer (some ⟨b1, 3, none⟩)) (x_fieldAddrO fa_25_3 rfl) (o_val (v := .slice (B) (xs.length) (e)) (x_load Tryz.isAgg23 rfl (hF.cell 0 rfl rfl)) (o_val (v := .int .i64 ((xs.length : Nat))) (x_len_slice Tryz.underlying23 rfl) ?_)))))))))))))
 refine o_val (x_move rfl) (o_nil (e_seq (c_block ?_)))
 refine c_loop (fun μ σ w => ∃ (j : Nat), μ = xs.length - j ∧ (j ≤ xs.length) ∧ AllEq σ [(3, .int .i64 ((depthTs (xs.take j) : Nat))), (7, .slice (B) (xs.length) (e)), (8, .int .i64 ((xs.length : Nat))), (9, .int .i64 ((j : Int)))] ∧ FR w0 [] [(b1, .cells #[.int .i64 (k), .string (bs (t)), .slice (A) (ks.length) (c), .slice (B) (xs.length) (e)] 25)] w) _ ⟨0, rfl, (Nat.zero_le _), ⟨rfl, rfl, rfl, rfl, trivial⟩, hF⟩ ?_
 clear hF; rintro μ σ w ⟨j, rfl, hj, hs, hF⟩
 refine Cg.slots hs ?_
 clear hs; intro σ
 refine c_seq (c_region (o_val (v := .bool (decide (((j : Int) : Int) < ((xs.length : Nat) : Int)))) (x_lss rfl rfl) (o_nil (e_seq (c_seq ?_)))))
 refine c_splitd (d := 10) (p := ((j : Int) : Int) < ((xs.length : Nat) : Int)) rfl (fun hc0 => ?_) (fun hc0 => ?_)
 refine c_ift rfl (c_skip (e_seq (c_seq (c_block (c_seq (c_region ?_))))))
 obtain ⟨ad0, cs0, hA0, hl0, hk0, hx0⟩ := hX.tree_elem (i := j) (by omega)
 have ho0 := hx0.one_
 refine o_val (v := .pointer (some (ad0.add (j * 4)))) (x_indexAddrA (i := (j : Int)) sl_23 rfl hA0 rfl (by omega) (by omega)) (o_val (v := .agg (List.toArray cs0)) (x_loadS (l := cs0) Tryz.isAgg25 Tryz.sizeOf25 rfl hl0 (hF.cells0 hk0)) ?_)
 refine o_lay (l := cs0) hF Tryz.zeroValue25 (by rw [hl0]; exact Tryz.sizeOf25) (by rw [hl0]; rfl) (v := .agg (List.toArray cs0)) rfl rfl (ho0) rfl ?_
 clear hF; rintro b2 w hb2 hF -
 refine o_nil (e_seq (c_region (o_val (x_move rfl) (o_val (v := .agg (List.toArray cs0)) (x_loadS (l := cs0) Tryz.isAgg25 Tryz.sizeOf25 rfl hl0 (hF.cellsAll 0 rfl)) ?_))))
 refine o_call (ih _ (List.getElem_mem _) (by have := sizeTs_mem (List.getElem_mem (l := xs) (n := j) (by omega)); omega) _ _ _ (hF.rep hx0)) (x_call1 en_62 rfl rfl) ?_
 rintro _ w ⟨rfl, hE⟩
 replace hF := hF.ext hE
 clear hE
 refine o_val (v := .int .i64 ((depthTs (xs.take (j + 1)) : Nat))) (by rw [← show max ((depthTs (xs.take j) : Nat) : Int) ((depthT xs[j] : Nat) : Int) = ((depthTs (xs.take (j + 1)) : Nat) : Int) from by rw [depthTs_take xs j (by omega)]; omega]; exact x_max rfl rfl) ?_
 refine o_val (x_assign rfl) (o_nil (e_block (e_seq (c_region (o_val (v := .int .i64 (((j : Int) : Int) + 1)) (x_add rfl rfl (wrap_id (by omega) (by omega))) (o_val (x_move rfl) (o_nil ?_)))))))
 refine e_inv ⟨_, ?_, j + 1, rfl, (by omega), ⟨rfl, rfl, rfl, rfl, trivial⟩, hF.drop 1⟩
 omega
 refine c_iff rfl ?_
 refine c_exit (e_exit rfl ?_)
 refine e_seq (c_seq (c_region (o_val (x_move rfl) ?_)))
 have eT : xs.take j = xs := List.take_of_length_le (by omega)
 refine o_val (v := .int .i64 ((depthT (.node k t ks xs) : Nat))) (x_add rfl rfl (by rw [eT, depthT]; exact wrap_to (by omega) (by omega) (by omega))) ?_
 refine o_val (x_assign rfl) (o_nil (e_seq ?_))
 refine c_ret (e_ret (post_ret (res_1 (v := .int .i64 ((depthT (.node k t ks xs) : Nat))) rfl rfl) ?_))
 exact ⟨rfl, hF.same⟩
theorem depth_c (x : Tree) : DepthC x := Tree.ind depth_step x
end Go.Scarf
namespace Go.Scarf
open Go.RowKit Go.Proofs
theorem Same.cell {w w' : World} {a : Addr} {v : Value} (h : Same [] w w') (hc : w.cell? a = some v) : w'.cell? a = some v := ((FR.start w []).ext h).cell0 hc
mutual
def allT (q : Tree → Bool) : Tree → Bool | .node k t ks xs => q (.node k t ks xs) && allTs q xs
def allTs (q : Tree → Bool) : List Tree → Bool | [] => true | x :: xs => allT q x && allTs q xs
end
theorem allTs_any (q : Tree → Bool) : ∀ xs : List Tree, allTs q xs = !(xs.any fun x => !allT q x)
  | [] => rfl
  | x :: xs => by rw [allTs, allTs_any q xs]; simp
def EachC (w0 : World) (bb : Nat) (xs : List Tree) (q : Tree → Bool) : Prop := ∀ x, x ∈ xs → ∀ S w cs, Same [] w0 w → Rep S w (treeD x) cs → Calls Tryz.prog 64 #[.agg cs.toArray, .pointer (some ⟨bb, 0, none⟩)] w (Ret fun v w' => v = .bool (q x) ∧ Same [] w w')
theorem EachC.ext {w0 w : World} {bb : Nat} {xs : List Tree} {q : Tree → Bool} (h : EachC w0 bb xs q) (hs : Same [] w0 w) : EachC w bb xs q := fun x hx S w' cs hw => h x hx S w' cs (hs.trans hw)
theorem none_take {q : Tree → Bool} {xs : List Tree} {j : Nat} (h : j < xs.length) (hn : (xs.take j).any q = false) (hq : q xs[j] = false) : (xs.take (j + 1)).any q = false := by
  rw [List.take_succ_eq_append_getElem h, List.any_append, hn]; simp [hq]
def EveryC (g : Nat) (q : Tree → Bool) (x : Tree) : Prop := ∀ S w0 cs, Rep S w0 (treeD x) cs → okT x → Gl w0 → Calls Tryz.prog 40 #[.agg cs.toArray, .func (.func g) #[] #[]] w0 (Ret fun v w' => v = .bool (allT q x) ∧ Same [] w0 w')
set_option maxHeartbeats 1000000 in
set_option maxRecDepth 10000 in
theorem indexFunc_c (xs : List Tree) (q : Tree → Bool) (bb : Nat) (B : Option Addr) (e : Nat) (S : Nat → Prop) (w0 : World) (hX : Rep S w0 (.slice (treesD xs)) [.slice B xs.length e]) (hq : EachC w0 bb xs q) : Calls Tryz.prog 86 #[.slice B xs.length e, .func (.func 64) #[] #[.pointer (some ⟨bb, 0, none⟩)]] w0 (Ret fun v w' => ∃ n : Int, v = .int .i64 n ∧ decide (0 ≤ n) = xs.any q ∧ Same [] w0 w') := by
 have hXl := hX.slice_len
 refine calls_start Tryz.func86 rfl Tryz.ntmps86 (Nat.le_of_ble_eq_true rfl) (args_2 _ _) ?_
 have hF := FR.start w0 []
 refine c_seq (c_region (o_val (x_assign rfl) (o_nil (e_seq (c_seq (c_seq (c_region (o_val (x_move rfl) (o_val (v := .int .i64 ((xs.length : Nat))) (x_len_slice Tryz.underlying23 rfl) (o_val (x_move rfl) (o_nil (e_seq (c_block ?_)))))))))))))
 refine c_loop (fun μ σ w => ∃ (j : Nat), μ = xs.length - j ∧ (j ≤ xs.length) ∧ ((xs.take j).any q = false) ∧ AllEq σ [(0, .slice (B) (xs.length) (e)), (1, .func (.func 64) #[] #[.pointer (some (⟨bb, 0, none⟩))]), (7, .int .i64 ((xs.length : Nat))), (8, .int .i64 ((j : Int)))] ∧ FR w0 [] [] w) _ ⟨0, rfl, (Nat.zero_le _), (by simp), ⟨rfl, rfl, rfl, rfl, trivial⟩, hF⟩ ?_
 clear hF; rintro μ σ w ⟨j, rfl, hj, hn, hs, hF⟩
 refine Cg.slots hs ?_
 clear hs; intro σ
 refine c_seq (c_region (o_val (v := .bool (decide (((j : Int) : Int) < ((xs.length : Nat) : Int)))) (x_lss rfl rfl) (o_nil (e_seq (c_seq ?_)))))
 refine c_splitd (d := 9) (p := ((j : Int) : Int) < ((xs.length : Nat) : Int)) rfl (fun hc0 => ?_) (fun hc0 => ?_)
 refine c_ift rfl (c_skip (e_seq (c_seq (c_block (c_seq (c_region (o_val (x_move rfl) (o_val (x_assign rfl) (o_nil (e_seq (c_seq (c_region (o_val (x_move rfl) ?_)))))))))))))
 refine o_val (x_move rfl) (o_val (x_move rfl) ?_)
 obtain ⟨ad0, cs0, hA0, hl0, hk0, hx0⟩ := hX.tree_elem (i := j) (by omega)
 have ho0 := hx0.one_
 refine o_val (v := .pointer (some (ad0.add (j * 4)))) (x_indexAddrA (i := (j : Int)) sl_23 rfl hA0 rfl (by omega) (by omega)) (o_val (v := .agg (List.toArray cs0)) (x_loadS (l := cs0) Tryz.isAgg25 Tryz.sizeOf25 rfl hl0 (hF.cells0 hk0)) ?_)
 refine o_call (hq _ (List.getElem_mem (l := xs) (n := j) (by omega)) _ _ _ hF.same (hF.rep hx0)) (x_callv1 rfl en_64 rfl rfl) ?_
 rintro _ w ⟨rfl, hE⟩
 replace hF := hF.ext hE
 clear hE
 refine o_nil (e_seq ?_)
 refine c_split (d := 16) (b := q xs[j]) rfl (fun hc1 => ?_) (fun hc1 => ?_)
 refine c_ift rfl (c_seq (c_region (o_val (x_move rfl) (o_val (x_assign rfl) (o_nil (e_seq ?_))))))
 refine c_ret (e_ret (post_ret (res_1 (v := .int .i64 ((j : Int))) rfl rfl) ?_))
 exact ⟨_, rfl, by rw [List.any_eq_true.2 ⟨_, List.getElem_mem (l := xs) (n := j) (by omega), hc1⟩]; simp, hF.same⟩
 refine c_iff rfl (c_skip (e_block (e_seq (c_region (o_val (v := .int .i64 (((j : Int) : Int) + 1)) (x_add rfl rfl (wrap_id (by omega) (by omega))) (o_val (x_move rfl) (o_nil ?_)))))))
 refine e_inv ⟨_, ?_, j + 1, rfl, (by omega), (none_take (by omega) hn hc1), ⟨rfl, rfl, rfl, rfl, trivial⟩, hF⟩
 omega
 refine c_iff rfl ?_
 refine c_exit (e_exit rfl ?_)
 refine e_seq (c_seq (c_region (o_val (x_assign rfl) (o_nil (e_seq ?_)))))
 refine c_ret (e_ret (post_ret (res_1 (v := .int .i64 ((-1))) rfl rfl) ?_))
 have eT : xs.take j = xs := List.take_of_length_le (by omega)
 rw [eT] at hn
 exact ⟨_, rfl, by rw [hn]; decide, hF.same⟩
set_option maxHeartbeats 1000000 in
set_option maxRecDepth 10000 in
theorem containsFunc_c (xs : List Tree) (q : Tree → Bool) (bb : Nat) (B : Option Addr) (e : Nat) (S : Nat → Prop) (w0 : World) (hX : Rep S w0 (.slice (treesD xs)) [.slice B xs.length e]) (hq : EachC w0 bb xs q) : Calls Tryz.prog 63 #[.slice B xs.length e, .func (.func 64) #[] #[.pointer (some ⟨bb, 0, none⟩)]] w0 (Ret fun v w' => v = .bool (xs.any q) ∧ Same [] w0 w') := by
 refine calls_start Tryz.func63 rfl Tryz.ntmps63 (Nat.le_of_ble_eq_true rfl) (args_2 _ _) ?_
 have hF := FR.start w0 []
 refine c_seq (c_region (o_val (x_assign rfl) (o_nil (e_seq (c_seq (c_region (o_val (x_move rfl) (o_val (x_move rfl) ?_))))))))
 refine o_call (indexFunc_c xs q bb B e S _ (hF.rep hX) (hq.ext hF.same)) (x_call2 en_86 rfl rfl rfl) ?_
 rintro _ w ⟨n, rfl, hn, hE⟩
 replace hF := hF.ext hE
 clear hE
 refine o_val (v := .bool (decide ((0 : Int) ≤ (n : Int)))) (x_geq rfl rfl) (o_val (x_assign rfl) (o_nil (e_seq ?_)))
 refine c_ret (e_ret (post_ret (res_1 (v := .bool (decide ((0 : Int) ≤ (n : Int)))) rfl rfl) ?_))
 exact ⟨congrArg Value.bool hn, hF.same⟩
set_option maxHeartbeats 1000000 in
set_option maxRecDepth 10000 in
theorem everyCl_c (g : Nat) (q : Tree → Bool) (x : Tree) (h : EveryC g q x) (bb : Nat) (S : Nat → Prop) (w0 : World) (cs : List Value) (hR : Rep S w0 (treeD x) cs) (hk : okT x) (hG : Gl w0) (hb : w0.cell? ⟨bb, 0, none⟩ = some (.func (.func g) #[] #[])) : Calls Tryz.prog 64 #[.agg cs.toArray, .pointer (some ⟨bb, 0, none⟩)] w0 (Ret fun v w' => v = .bool (!allT q x) ∧ Same [] w0 w') := by
 have hl : cs.length = 4 := hR.length.trans (size_treeD x)
 have ho := hR.one_
 refine calls_start Tryz.func64 rfl Tryz.ntmps64 (Nat.le_of_ble_eq_true rfl) (args_2 _ _) ?_
 have hF := FR.start w0 []
 refine c_seq (c_region ?_)
 refine o_box (v := .agg (List.toArray cs)) (cs := (List.toArray cs)) hF rfl rfl ?_
 clear hF; rintro b1 w hb1 hF -
 refine o_val (x_assign rfl) (o_nil (e_seq (c_seq (c_region (o_val (v := .agg (List.toArray cs)) (x_loadS (l := cs) Tryz.isAgg25 Tryz.sizeOf25 rfl hl (hF.cellsAll 0 rfl)) (o_val (v := .func (.func g) #[] #[]) (x_load Tryz.isAgg51 rfl (hF.cell0 hb)) ?_))))))
 refine o_call (h S _ cs (hF.rep hR) hk (hG.ext hF.same)) (x_call2 en_40 rfl rfl rfl) ?_
 rintro _ w ⟨rfl, hE⟩
 replace hF := hF.ext hE
 clear hE
 refine o_val (v := .bool (!(allT q x))) (x_not rfl) (o_val (x_assign rfl) (o_nil (e_seq ?_)))
 refine c_ret (e_ret (post_ret (res_1 (v := .bool (!(allT q x))) rfl rfl) ?_))
 exact ⟨rfl, hF.same⟩
set_option maxHeartbeats 1000000 in
set_option maxRecDepth 10000 in
theorem every61_step (q : Tree → Bool) (hp : PredC 41 q) (k : Int) (t : Str) (ks : List Str) (xs : List Tree) (ih : ∀ x, x ∈ xs → EveryC 41 q x) : EveryC 41 q (.node k t ks xs) := by
 intro S w0 cs hR hk hG
 have hk' := hk
 rw [okT] at hk'
 obtain ⟨A, c, B, e, rfl, -, -, hK, hX⟩ := hR.tree_inv
 refine calls_start Tryz.func40 rfl Tryz.ntmps40 (Nat.le_of_ble_eq_true rfl) (args_2 _ _) ?_
 have hF := FR.start w0 []
 refine c_seq (c_region ?_)
 refine o_box (v := .agg #[.int .i64 (k), .string (bs (t)), .slice (A) (ks.length) (c), .slice (B) (xs.length) (e)]) (cs := #[.int .i64 (k), .string (bs (t)), .slice (A) (ks.length) (c), .slice (B) (xs.length) (e)]) hF rfl rfl ?_
 clear hF; rintro b1 w hb1 hF -
 refine o_box (v := .func (.func 41) #[] #[]) (cs := #[.func (.func 41) #[] #[]]) hF rfl rfl ?_
 clear hF; rintro b2 w hb2 hF -
 refine o_val (x_assign rfl) (o_nil (e_seq (c_seq (c_region (o_val (v := .func (.func 41) #[] #[]) (x_load Tryz.isAgg51 rfl (hF.cell 0 rfl rfl)) (o_val (v := .agg #[.int .i64 (k), .string (bs (t)), .slice (A) (ks.length) (c), .slice (B) (xs.length) (e)]) (x_loadS (l := [.int .i64 (k), .string (bs (t)), .slice (A) (ks.length) (c), .slice (B) (xs.length) (e)]) Tryz.isAgg25 Tryz.sizeOf25 rfl rfl (hF.cellsAll 1 rfl)) ?_))))))
 refine o_call (hp (.node k t ks xs) S _ _ (hF.rep hR) hk (hG.ext hF.same)) (x_callv1 rfl en_41 rfl rfl) ?_
 rintro _ w ⟨rfl, hE⟩
 replace hF := hF.ext hE
 clear hE
 refine o_val (x_move rfl) ?_
 refine o_split (d := 8) (b := q (.node k t ks xs)) rfl (fun hg0 => ?_) (fun hg0 => ?_)
 refine o_val (v := .pointer (some ⟨b1, 3, none⟩)) (x_fieldAddrO fa_25_3 rfl) (o_val (v := .slice (B) (xs.length) (e)) (x_load Tryz.isAgg23 rfl (hF.cell 1 rfl rfl)) (o_val (v := .func (.func 64) #[] #[.pointer (some ⟨b2, 0, none⟩)]) (x_makeFunc01 rfl) ?_))
 refine o_call (containsFunc_c xs (fun x => !allT q x) b2 B e S _ (hF.rep hX) (fun x hx S' w' cs' hs hr => everyCl_c 41 q x (ih x hx) b2 S' w' cs' hr (okTs_mem hk'.2.2 x hx) ((hG.ext hF.same).ext hs) (hs.cell (hF.cell 0 rfl rfl)))) (x_call2 en_63 rfl rfl rfl) ?_
 rintro _ w ⟨rfl, hE⟩
 replace hF := hF.ext hE
 clear hE
 refine o_val (v := .bool (!(xs.any fun x => !allT q x))) (x_not rfl) (o_val (x_pickt rfl rfl) (o_val (x_assign rfl) (o_nil (e_seq ?_))))
 refine c_ret (e_ret (post_ret (res_1 (v := .bool (!(xs.any fun x => !allT q x))) rfl rfl) ?_))
 refine ⟨?_, hF.same⟩
 rw [allT, allTs_any]
 simp_all
 refine o_off (o_off (o_off (o_off (o_off (o_val (x_pickf rfl rfl) (o_val (x_assign rfl) (o_nil (e_seq ?_))))))))
 refine c_ret (e_ret (post_ret (res_1 (v := .bool false) rfl rfl) ?_))
 refine ⟨?_, hF.same⟩
 rw [allT, allTs_any]
 simp_all
theorem every61_c (q : Tree → Bool) (hp : PredC 41 q) (x : Tree) : EveryC 41 q x := Tree.ind (every61_step q hp) x
set_option maxHeartbeats 1000000 in
set_option maxRecDepth 10000 in
theorem every62_step (q : Tree → Bool) (hp : PredC 42 q) (k : Int) (t : Str) (ks : List Str) (xs : List Tree) (ih : ∀ x, x ∈ xs → EveryC 42 q x) : EveryC 42 q (.node k t ks xs) := by
 intro S w0 cs hR hk hG
 have hk' := hk
 rw [okT] at hk'
 obtain ⟨A, c, B, e, rfl, -, -, hK, hX⟩ := hR.tree_inv
 refine calls_start Tryz.func40 rfl Tryz.ntmps40 (Nat.le_of_ble_eq_true rfl) (args_2 _ _) ?_
 have hF := FR.start w0 []
 refine c_seq (c_region ?_)
 refine o_box (v := .agg #[.int .i64 (k), .string (bs (t)), .slice (A) (ks.length) (c), .slice (B) (xs.length) (e)]) (cs := #[.int .i64 (k), .string (bs (t)), .slice (A) (ks.length) (c), .slice (B) (xs.length) (e)]) hF rfl rfl ?_
 clear hF; rintro b1 w hb1 hF -
 refine o_box (v := .func (.func 42) #[] #[]) (cs := #[.func (.func 42) #[] #[]]) hF rfl rfl ?_
 clear hF; rintro b2 w hb2 hF -
 refine o_val (x_assign rfl) (o_nil (e_seq (c_seq (c_region (o_val (v := .func (.func 42) #[] #[]) (x_load Tryz.isAgg51 rfl (hF.cell 0 rfl rfl)) (o_val (v := .agg #[.int .i64 (k), .string (bs (t)), .slice (A) (ks.length) (c), .slice (B) (xs.length) (e)]) (x_loadS (l := [.int .i64 (k), .string (bs (t)), .slice (A) (ks.length) (c), .slice (B) (xs.length) (e)]) Tryz.isAgg25 Tryz.sizeOf25 rfl rfl (hF.cellsAll 1 rfl)) ?_))))))
 refine o_call (hp (.node k t ks xs) S _ _ (hF.rep hR) hk (hG.ext hF.same)) (x_callv1 rfl en_42 rfl rfl) ?_
 rintro _ w ⟨rfl, hE⟩
 replace hF := hF.ext hE
 clear hE
 refine o_val (x_move rfl) ?_
 refine o_split (d := 8) (b := q (.node k t ks xs)) rfl (fun hg0 => ?_) (fun hg0 => ?_)
 refine o_val (v := .pointer (some ⟨b1, 3, none⟩)) (x_fieldAddrO fa_25_3 rfl) (o_val (v := .slice (B) (xs.length) (e)) (x_load Tryz.isAgg23 rfl (hF.cell 1 rfl rfl)) (o_val (v := .func (.func 64) #[] #[.pointer (some ⟨b2, 0, none⟩)]) (x_makeFunc01 rfl) ?_))
 refine o_call (containsFunc_c xs (fun x => !allT q x) b2 B e S _ (hF.rep hX) (fun x hx S' w' cs' hs hr => everyCl_c 42 q x (ih x hx) b2 S' w' cs' hr (okTs_mem hk'.2.2 x hx) ((hG.ext hF.same).ext hs) (hs.cell (hF.cell 0 rfl rfl)))) (x_call2 en_63 rfl rfl rfl) ?_
 rintro _ w ⟨rfl, hE⟩
 replace hF := hF.ext hE
 clear hE
 refine o_val (v := .bool (!(xs.any fun x => !allT q x))) (x_not rfl) (o_val (x_pickt rfl rfl) (o_val (x_assign rfl) (o_nil (e_seq ?_))))
 refine c_ret (e_ret (post_ret (res_1 (v := .bool (!(xs.any fun x => !allT q x))) rfl rfl) ?_))
 refine ⟨?_, hF.same⟩
 rw [allT, allTs_any]
 simp_all
 refine o_off (o_off (o_off (o_off (o_off (o_val (x_pickf rfl rfl) (o_val (x_assign rfl) (o_nil (e_seq ?_))))))))
 refine c_ret (e_ret (post_ret (res_1 (v := .bool false) rfl rfl) ?_))
 refine ⟨?_, hF.same⟩
 rw [allT, allTs_any]
 simp_all
theorem every62_c (q : Tree → Bool) (hp : PredC 42 q) (x : Tree) : EveryC 42 q x := Tree.ind (every62_step q hp) x
end Go.Scarf
namespace Go.Scarf
open Go.RowKit Go.Proofs
def rnodeB (x : Tree) : Bool := decide (x.kind ≠ 7) && nodeB x
def sizedB (x : Tree) : Bool := decide (sizeT x ≤ 4096) && decide (depthT x ≤ 32)
def openB (x : Tree) : Bool := sizedB x && allT nodeB x
def rightB (x : Tree) : Bool := sizedB x && allT rnodeB x
theorem wr_small {n : Nat} (h : n ≤ 1000000000) : wr (n : Int) = (n : Int) := wrap_id (by omega) (by omega)
set_option maxHeartbeats 1000000 in
set_option maxRecDepth 10000 in
theorem rnode_c  : PredC 41 rnodeB := by
 rintro ⟨k, t, ks, xs⟩ S w0 cs hR hk hG
 obtain ⟨A, c, B, e, rfl, -, -, hK, hX⟩ := hR.tree_inv
 refine calls_start Tryz.func41 rfl Tryz.ntmps41 (Nat.le_of_ble_eq_true rfl) (args_1 _) ?_
 have hF := FR.start w0 []
 refine c_seq (c_region ?_)
 refine o_box (v := .agg #[.int .i64 (k), .string (bs (t)), .slice (A) (ks.length) (c), .slice (B) (xs.length) (e)]) (cs := #[.int .i64 (k), .string (bs (t)), .slice (A) (ks.length) (c), .slice (B) (xs.length) (e)]) hF rfl rfl ?_
 clear hF; rintro b1 w hb1 hF -
 refine o_val (x_assign rfl) (o_nil (e_seq (c_seq (c_region (o_val (v := .pointer (some ⟨b1, 0, none⟩)) (x_fieldAddrO fa_25_0 rfl) (o_val (v := .int .i64 (k)) (x_load Tryz.isAgg3 rfl (hF.cell 0 rfl rfl)) (o_val (v := .bool (decide ((k : Int) ≠ (7 : Int)))) (x_neq rfl rfl) (o_val (x_move rfl) ?_))))))))
 refine o_splitd (d := 6) (p := (k : Int) ≠ (7 : Int)) rfl (fun hg0 => ?_) (fun hg0 => ?_)
 refine o_val (v := .agg #[.int .i64 (k), .string (bs (t)), .slice (A) (ks.length) (c), .slice (B) (xs.length) (e)]) (x_loadS (l := [.int .i64 (k), .string (bs (t)), .slice (A) (ks.length) (c), .slice (B) (xs.length) (e)]) Tryz.isAgg25 Tryz.sizeOf25 rfl rfl (hF.cellsAll 0 rfl)) ?_
 refine o_call (node_c (.node k t ks xs) S _ _ (hF.rep hR) hk (hG.ext hF.same)) (x_call1 en_42 rfl rfl) ?_
 rintro _ w ⟨rfl, hE⟩
 replace hF := hF.ext hE
 clear hE
 refine o_val (x_pickt rfl rfl) (o_val (x_assign rfl) (o_nil (e_seq ?_)))
 refine c_ret (e_ret (post_ret (res_1 (v := .bool (nodeB (.node k t ks xs))) rfl rfl) ?_))
 refine ⟨?_, hF.same⟩
 simp_all [rnodeB, Tree.kind]
 refine o_off (o_off (o_val (x_pickf rfl rfl) (o_val (x_assign rfl) (o_nil (e_seq ?_)))))
 refine c_ret (e_ret (post_ret (res_1 (v := .bool false) rfl rfl) ?_))
 refine ⟨?_, hF.same⟩
 simp_all [rnodeB, Tree.kind]
theorem size_v (x : Tree) (hsz : sizeT x ≤ 1000000000) (S : Nat → Prop) (w0 : World) (cs : List Value) (hR : Rep S w0 (treeD x) cs) : Calls Tryz.prog 61 #[.agg cs.toArray] w0 (Ret fun v w' => v = .int .i64 (sizeT x : Nat) ∧ Same [] w0 w') := by
  have h := size_c x S w0 cs hR
  rwa [wr_small hsz] at h
set_option maxHeartbeats 1000000 in
set_option maxRecDepth 10000 in
theorem sized_c (x : Tree) (hsz : sizeT x ≤ 1000000000) (S : Nat → Prop) (w0 : World) (cs : List Value) (hR : Rep S w0 (treeD x) cs) : Calls Tryz.prog 39 #[.agg cs.toArray] w0 (Ret fun v w' => v = .bool (sizedB x) ∧ Same [] w0 w') := by
 have hl : cs.length = 4 := hR.length.trans (size_treeD x)
 have ho := hR.one_
 refine calls_start Tryz.func39 rfl Tryz.ntmps39 (Nat.le_of_ble_eq_true rfl) (args_1 _) ?_
 have hF := FR.start w0 []
 refine c_seq (c_region ?_)
 refine o_box (v := .agg (List.toArray cs)) (cs := (List.toArray cs)) hF rfl rfl ?_
 clear hF; rintro b1 w hb1 hF -
 refine o_val (x_assign rfl) (o_nil (e_seq (c_seq (c_region (o_val (v := .agg (List.toArray cs)) (x_loadS (l := cs) Tryz.isAgg25 Tryz.sizeOf25 rfl hl (hF.cellsAll 0 rfl)) ?_)))))
 refine o_call (size_v x hsz S _ cs (hF.rep hR)) (x_call1 en_61 rfl rfl) ?_
 rintro _ w ⟨rfl, hE⟩
 replace hF := hF.ext hE
 clear hE
 refine o_val (v := .bool (decide (((sizeT x : Nat) : Int) ≤ (4096 : Int)))) (x_leq rfl rfl) (o_val (x_move rfl) ?_)
 refine o_splitd (d := 6) (p := ((sizeT x : Nat) : Int) ≤ (4096 : Int)) rfl (fun hg0 => ?_) (fun hg0 => ?_)
 refine o_val (v := .agg (List.toArray cs)) (x_loadS (l := cs) Tryz.isAgg25 Tryz.sizeOf25 rfl hl (hF.cellsAll 0 rfl)) ?_
 refine o_call (depth_c x hsz S _ cs (hF.rep hR)) (x_call1 en_62 rfl rfl) ?_
 rintro _ w ⟨rfl, hE⟩
 replace hF := hF.ext hE
 clear hE
 refine o_val (v := .bool (decide (((depthT x : Nat) : Int) ≤ (32 : Int)))) (x_leq rfl rfl) (o_val (x_pickt rfl rfl) (o_val (x_assign rfl) (o_nil (e_seq ?_))))
 refine c_ret (e_ret (post_ret (res_1 (v := .bool (decide (((depthT x : Nat) : Int) ≤ (32 : Int)))) rfl rfl) ?_))
 refine ⟨congrArg Value.bool ?_, hF.same⟩
 unfold sizedB
 first | (rw [decide_eq_true (by omega : sizeT x ≤ 4096)]; exact decide_eq_decide.2 (by omega)) | (rw [decide_eq_false (by omega : ¬ sizeT x ≤ 4096)]; rfl)
 refine o_off (o_off (o_off (o_val (x_pickf rfl rfl) (o_val (x_assign rfl) (o_nil (e_seq ?_))))))
 refine c_ret (e_ret (post_ret (res_1 (v := .bool false) rfl rfl) ?_))
 refine ⟨congrArg Value.bool ?_, hF.same⟩
 unfold sizedB
 first | (rw [decide_eq_true (by omega : sizeT x ≤ 4096)]; exact decide_eq_decide.2 (by omega)) | (rw [decide_eq_false (by omega : ¬ sizeT x ≤ 4096)]; rfl)
set_option maxHeartbeats 1000000 in
set_option maxRecDepth 10000 in
theorem right_v (x : Tree) (hsz : sizeT x ≤ 1000000000) (S : Nat → Prop) (w0 : World) (cs : List Value) (hR : Rep S w0 (treeD x) cs) (hk : okT x) (hG : Gl w0) : Calls Tryz.prog 26 #[.agg cs.toArray] w0 (Ret fun v w' => v = .bool (rightB x) ∧ Same [] w0 w') := by
 have hl : cs.length = 4 := hR.length.trans (size_treeD x)
 have ho := hR.one_
 refine calls_start Tryz.func26 rfl Tryz.ntmps26 (Nat.le_of_ble_eq_true rfl) (args_1 _) ?_
 have hF := FR.start w0 []
 refine c_seq (c_region ?_)
 refine o_box (v := .agg (List.toArray cs)) (cs := (List.toArray cs)) hF rfl rfl ?_
 clear hF; rintro b1 w hb1 hF -
 refine o_val (x_assign rfl) (o_nil (e_seq (c_seq (c_region (o_val (v := .agg (List.toArray cs)) (x_loadS (l := cs) Tryz.isAgg25 Tryz.sizeOf25 rfl hl (hF.cellsAll 0 rfl)) ?_)))))
 refine o_call (sized_c x hsz S _ cs (hF.rep hR)) (x_call1 en_39 rfl rfl) ?_
 rintro _ w ⟨rfl, hE⟩
 replace hF := hF.ext hE
 clear hE
 refine o_val (x_move rfl) ?_
 refine o_split (d := 5) (b := sizedB x) rfl (fun hg0 => ?_) (fun hg0 => ?_)
 refine o_val (v := .agg (List.toArray cs)) (x_loadS (l := cs) Tryz.isAgg25 Tryz.sizeOf25 rfl hl (hF.cellsAll 0 rfl)) ?_
 refine o_call (every61_c rnodeB rnode_c x S _ cs (hF.rep hR) hk (hG.ext hF.same)) (x_call2 en_40 rfl rfl rfl) ?_
 rintro _ w ⟨rfl, hE⟩
 replace hF := hF.ext hE
 clear hE
 refine o_val (x_pickt rfl rfl) (o_val (x_assign rfl) (o_nil (e_seq ?_)))
 refine c_ret (e_ret (post_ret (res_1 (v := .bool (allT rnodeB x)) rfl rfl) ?_))
 exact ⟨congrArg Value.bool (by unfold rightB; simp_all), hF.same⟩
 refine o_off (o_off (o_val (x_pickf rfl rfl) (o_val (x_assign rfl) (o_nil (e_seq ?_)))))
 refine c_ret (e_ret (post_ret (res_1 (v := .bool false) rfl rfl) ?_))
 exact ⟨congrArg Value.bool (by unfold rightB; simp_all), hF.same⟩
set_option maxHeartbeats 1000000 in
set_option maxRecDepth 10000 in
theorem open_v (x : Tree) (hsz : sizeT x ≤ 1000000000) (S : Nat → Prop) (w0 : World) (cs : List Value) (hR : Rep S w0 (treeD x) cs) (hk : okT x) (hG : Gl w0) : Calls Tryz.prog 50 #[.agg cs.toArray] w0 (Ret fun v w' => v = .bool (openB x) ∧ Same [] w0 w') := by
 have hl : cs.length = 4 := hR.length.trans (size_treeD x)
 have ho := hR.one_
 refine calls_start Tryz.func50 rfl Tryz.ntmps50 (Nat.le_of_ble_eq_true rfl) (args_1 _) ?_
 have hF := FR.start w0 []
 refine c_seq (c_region ?_)
 refine o_box (v := .agg (List.toArray cs)) (cs := (List.toArray cs)) hF rfl rfl ?_
 clear hF; rintro b1 w hb1 hF -
 refine o_val (x_assign rfl) (o_nil (e_seq (c_seq (c_region (o_val (v := .agg (List.toArray cs)) (x_loadS (l := cs) Tryz.isAgg25 Tryz.sizeOf25 rfl hl (hF.cellsAll 0 rfl)) ?_)))))
 refine o_call (sized_c x hsz S _ cs (hF.rep hR)) (x_call1 en_39 rfl rfl) ?_
 rintro _ w ⟨rfl, hE⟩
 replace hF := hF.ext hE
 clear hE
 refine o_val (x_move rfl) ?_
 refine o_split (d := 5) (b := sizedB x) rfl (fun hg0 => ?_) (fun hg0 => ?_)
 refine o_val (v := .agg (List.toArray cs)) (x_loadS (l := cs) Tryz.isAgg25 Tryz.sizeOf25 rfl hl (hF.cellsAll 0 rfl)) ?_
 refine o_call (every62_c nodeB node_c x S _ cs (hF.rep hR) hk (hG.ext hF.same)) (x_call2 en_40 rfl rfl rfl) ?_
 rintro _ w ⟨rfl, hE⟩
 replace hF := hF.ext hE
 clear hE
 refine o_val (x_pickt rfl rfl) (o_val (x_assign rfl) (o_nil (e_seq ?_)))
 refine c_ret (e_ret (post_ret (res_1 (v := .bool (allT nodeB x)) rfl rfl) ?_))
 exact ⟨congrArg Value.bool (by unfold openB; simp_all), hF.same⟩
 refine o_off (o_off (o_val (x_pickf rfl rfl) (o_val (x_assign rfl) (o_nil (e_seq ?_)))))
 refine c_ret (e_ret (post_ret (res_1 (v := .bool false) rfl rfl) ?_))
 exact ⟨congrArg Value.bool (by unfold openB; simp_all), hF.same⟩
end Go.Scarf
