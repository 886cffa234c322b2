/- A part of the proof. -/
import Derived.Test.YtehmojdjpmliaaaGreatDoorW3
import Derived.Test.YtehmojdjpmliaaaGreatDoorShelf2
import Derived.Test.YtehmojdjpmliaaaGreatDoorTree
import Derived.Lib.ValidLaws
import Derived.Lib.TrimUEq
import Derived.Lib.MapLaws
set_option linter.all false
namespace Go.Scarf
open Go.RowKit Go.Proofs
def decimalB (s : Str) : Bool := decide ((parseN s).2 = 0) && decide (textN (parseN s).1 = s)
def holeB (s : Str) : Bool := decimalB s && (intN (parseN s).1).2 && decide (0 ≤ (intN (parseN s).1).1)
theorem parseN_right (s : Str) : rightN (parseN s).1 = true := by
  rw [parseN_eq]
  repeat' split
  all_goals first | rfl | simp_all
theorem parseN_len (s : Str) : (parseN s).1.digits.length ≤ 1000 := (rightN_len (parseN_right s)).1
theorem decode_drop (s : Str) (q : Nat) : Lib.decodeL (s.drop q) = Utf8.decode (bs s) q := Lib.decodeL_drop (bs s) q
theorem decode_pos (s : Str) (q : Nat) : 1 ≤ (Utf8.decode (bs s) q).2 := by rw [← decode_drop]; exact Lib.decodeL_width _
theorem decode_end (s : Str) (q : Nat) (h : q < s.length) : q + (Utf8.decode (bs s) q).2 ≤ s.length := by
  have := Lib.decodeL_le (s.drop q) (by rw [ne_eq, List.drop_eq_nil_iff]; omega)
  rw [decode_drop, List.length_drop] at this
  omega
theorem valid_next (s : Str) (q : Nat) (h : q < s.length) (hv : Lib.validD (s.drop q) = false) (hn : ¬ ((Utf8.decode (bs s) q).1 = 65533 ∧ (Utf8.decode (bs s) q).2 = 1)) : Lib.validD (s.drop (q + (Utf8.decode (bs s) q).2)) = false := by
  rw [Lib.validD_step _ (by rw [ne_eq, List.drop_eq_nil_iff]; omega), decode_drop, if_neg hn, List.drop_drop] at hv
  exact hv
theorem decodeGo_drop (s : Str) (q : Nat) (h : q < s.length) : Lib.decodeGo (bs (s.drop q)) = Utf8.decode (bs s) q := by
  have h1 : (bs (s.drop q)).size ≠ 0 := by rw [bs_size, List.length_drop]; omega
  rw [Lib.decodeGo, if_neg h1]; exact decode_drop s q
theorem validString_c (s : Str) (hl : s.length ≤ 140737488355328) {w : World} (hG : Gl w) : Calls Tryz.prog 146 #[.string (bs s)] w (Ret fun v w' => v = .bool (Lib.validD s) ∧ Same [] w w') :=
  ret_below (Tryz.utf8_ValidString (bs s) w (by rw [bs_size]; omega) hG.tabs)
theorem decodeRune_c (s : Str) {w : World} (hG : Gl w) : Calls Tryz.prog 147 #[.string (bs s)] w (Ret fun v w' => v = .tuple #[.int .i32 (Lib.decodeGo (bs s)).1, .int .i64 (Lib.decodeGo (bs s)).2] ∧ Same [] w w') :=
  ret_below (Tryz.utf8_DecodeRuneInString (bs s) w hG.tabs)
set_option maxHeartbeats 1000000 in
set_option maxRecDepth 10000 in
theorem valid_c (s : Str) (hl : s.length ≤ 140737488355328) (w0 : World) (hG : Gl w0) : Calls Tryz.prog 118 #[.string (bs s)] w0 (Ret fun v w' => ∃ n, v = .tuple #[.int .i64 n, .bool (Lib.validD s)] ∧ Same [] w0 w') := by
  refine calls_start Tryz.func118 rfl Tryz.ntmps118 (Nat.le_of_ble_eq_true rfl) (args_1 _) ?_
  have hF := FR.start w0 []
  refine c_seq ?_
  refine c_region ?_
  refine o_val (v := .int .i64 (0)) (x_assign rfl) ?_
  refine o_val (v := .bool false) (x_assign rfl) ?_
  refine o_nil ?_
  refine e_seq ?_
  refine c_seq ?_
  refine c_seq ?_
  refine c_region ?_
  refine o_val (v := .string (bs (s))) (x_move rfl) ?_
  refine o_call (validString_c s hl (hG.ext hF.same)) (x_call1 en_146 rfl rfl) ?_
  rintro _ w ⟨rfl, hE⟩
  replace hF := hF.ext hE
  clear hE
  refine o_nil ?_
  refine e_seq ?_
  refine c_split (d := 9) (b := Lib.validD s) rfl (fun hc0 => ?_) (fun hc0 => ?_)
  ·
    refine c_ift rfl ?_
    refine c_seq ?_
    refine c_region ?_
    refine o_val (v := .string (bs (s))) (x_move rfl) ?_
    refine o_val (v := .int .i64 ((((s) : Str).length : Int))) (x_len_string Tryz.underlying9 rfl) ?_
    refine o_val (v := .int .i64 ((((s) : Str).length : Int))) (x_assign rfl) ?_
    refine o_val (v := .bool true) (x_assign rfl) ?_
    refine o_nil ?_
    refine e_seq ?_
    refine c_ret (e_ret (post_ret (res_2 (v := .int .i64 ((((s) : Str).length : Int))) (x := .bool true) rfl rfl rfl) ?_))
    exact ⟨_, by rw [hc0], hF.same⟩
  ·
    refine c_iff rfl ?_
    refine c_skip ?_
    refine e_seq ?_
    refine c_seq ?_
    refine c_seq ?_
    refine c_region ?_
    refine o_val (v := .string (bs (s))) (x_move rfl) ?_
    refine o_rangeS (str := s) hF Tryz.underlying9 rfl ?_
    clear hF; intro b1 w hb1 hF hE
    clear hE
    refine o_nil ?_
    refine e_seq ?_
    refine c_block ?_
    refine c_loop (fun μ σ w => ∃ (q : Nat), μ = s.length - q ∧ (q ≤ s.length) ∧ (Lib.validD (s.drop q) = false) ∧ AllEq σ [(0, .string (bs (s))), (13, .pointer (some ⟨b1, 0, none⟩))] ∧ FR w0 [] [(b1, .stringIter (bs (s)) (q))] w) _ ⟨0, rfl, (Nat.zero_le _), (by simpa using hc0), ⟨rfl, rfl, trivial⟩, hF⟩ ?_
    clear hF; rintro μ σ w ⟨q, rfl, hq, hv, hs, hF⟩
    refine Cg.slots hs ?_
    clear hs; intro σ
    refine c_seq ?_
    refine c_region ?_
    by_cases hn0 : (q) < (s : Str).length
    ·
      refine o_nextS 0 (p := q) (str := s) hF rfl rfl hn0 ?_
      clear hF; intro w hF hE
      clear hE
      replace hF : FR w0 [] [(b1, .stringIter (bs (s)) (q + (Utf8.decode (bs (s)) (q)).2))] w := hF
      refine o_val (v := .bool true) (x_extract rfl rfl) ?_
      refine o_nil ?_
      refine e_seq ?_
      refine c_seq ?_
      refine c_ift rfl ?_
      refine c_skip ?_
      refine e_seq ?_
      refine c_block ?_
      refine c_seq ?_
      refine c_region ?_
      refine o_val (v := .int .i64 (((q : Nat) : Int))) (x_extract rfl rfl) ?_
      refine o_val (v := .int .i32 (((Utf8.decode (bs (s)) (q)).1 : Int))) (x_extract rfl rfl) ?_
      refine o_val (v := .int .i64 (((q : Nat) : Int))) (x_assign rfl) ?_
      refine o_val (v := .int .i32 (((Utf8.decode (bs (s)) (q)).1 : Int))) (x_assign rfl) ?_
      refine o_nil ?_
      refine e_seq ?_
      refine c_seq ?_
      refine c_seq ?_
      refine c_region ?_
      refine o_val (v := .int .i32 (((Utf8.decode (bs (s)) (q)).1 : Int))) (x_move rfl) ?_
      refine o_val (v := .bool (decide ((((Utf8.decode (bs (s)) (q)).1 : Int) : Int) ≠ (65533 : Int)))) (x_neq rfl rfl) ?_
      refine o_nil ?_
      refine e_seq ?_
      refine c_splitd (d := 19) (p := (((Utf8.decode (bs (s)) (q)).1 : Int) : Int) ≠ (65533 : Int)) rfl (fun hc2 => ?_) (fun hc2 => ?_)
      ·
        refine c_ift rfl ?_
        refine c_exit (e_exit rfl ?_)
        have h1 := decode_pos s q
        have hw : ¬ ((Utf8.decode (bs s) q).1 = 65533 ∧ (Utf8.decode (bs s) q).2 = 1) := by
          first
          | (intro hh; omega)
          | (rw [decodeGo_drop s q (by omega)] at hc3; intro hh; omega)
        refine e_inv ⟨_, ?_, q + (Utf8.decode (bs s) q).2, rfl, (decode_end s q (by omega)), (valid_next s q (by omega) hv hw), ⟨rfl, rfl, trivial⟩, hF⟩
        omega
      ·
        refine c_iff rfl ?_
        refine c_skip ?_
        refine e_seq ?_
        refine c_seq ?_
        refine c_region ?_
        refine o_val (v := .string (bs (s))) (x_move rfl) ?_
        refine o_val (v := .int .i64 (((q : Nat) : Int))) (x_move rfl) ?_
        refine o_val (v := .string (bs ((s : Str).drop (q)))) (x_sliceL (q) Tryz.underlying9 rfl rfl (by omega)) ?_
        refine o_call (decodeRune_c (s.drop q) (hG.ext hF.same)) (x_call1 en_147 rfl rfl) ?_
        rintro _ w ⟨rfl, hE⟩
        replace hF := hF.ext hE
        clear hE
        refine o_val (v := .tuple #[.int .i32 ((Lib.decodeGo (bs (s.drop q))).1), .int .i64 ((Lib.decodeGo (bs (s.drop q))).2)]) (x_move rfl) ?_
        refine o_val (v := .int .i32 ((Lib.decodeGo (bs (s.drop q))).1)) (x_extract rfl rfl) ?_
        refine o_val (v := .int .i64 ((Lib.decodeGo (bs (s.drop q))).2)) (x_extract rfl rfl) ?_
        refine o_val (v := .int .i32 ((Lib.decodeGo (bs (s.drop q))).1)) (x_assign rfl) ?_
        refine o_val (v := .int .i64 ((Lib.decodeGo (bs (s.drop q))).2)) (x_assign rfl) ?_
        refine o_nil ?_
        refine e_seq ?_
        refine c_seq ?_
        refine c_region ?_
        refine o_val (v := .int .i64 ((Lib.decodeGo (bs (s.drop q))).2)) (x_move rfl) ?_
        refine o_val (v := .bool (decide (((Lib.decodeGo (bs (s.drop q))).2 : Int) = (1 : Int)))) (x_eql rfl rfl) ?_
        refine o_nil ?_
        refine e_seq ?_
        refine c_splitd (d := 28) (p := ((Lib.decodeGo (bs (s.drop q))).2 : Int) = (1 : Int)) rfl (fun hc3 => ?_) (fun hc3 => ?_)
        ·
          refine c_ift rfl ?_
          refine c_seq ?_
          refine c_region ?_
          refine o_val (v := .int .i64 (((q : Nat) : Int))) (x_move rfl) ?_
          refine o_val (v := .int .i64 (((q : Nat) : Int))) (x_assign rfl) ?_
          refine o_val (v := .bool false) (x_assign rfl) ?_
          refine o_nil ?_
          refine e_seq ?_
          refine c_ret (e_ret (post_ret (res_2 (v := .int .i64 (((q : Nat) : Int))) (x := .bool false) rfl rfl rfl) ?_))
          exact ⟨_, by rw [hc0], hF.same⟩
        ·
          refine c_iff rfl ?_
          refine c_skip ?_
          refine e_block ?_
          have h1 := decode_pos s q
          have hw : ¬ ((Utf8.decode (bs s) q).1 = 65533 ∧ (Utf8.decode (bs s) q).2 = 1) := by
            first
            | (intro hh; omega)
            | (rw [decodeGo_drop s q (by omega)] at hc3; intro hh; omega)
          refine e_inv ⟨_, ?_, q + (Utf8.decode (bs s) q).2, rfl, (decode_end s q (by omega)), (valid_next s q (by omega) hv hw), ⟨rfl, rfl, trivial⟩, hF⟩
          omega
    ·
      refine o_nextSend 0 (p := q) (str := s) hF rfl rfl hn0 ?_
      refine o_val (v := .bool false) (x_extract rfl rfl) ?_
      refine o_nil ?_
      refine e_seq ?_
      refine c_seq ?_
      refine c_iff rfl ?_
      refine c_exit (e_exit rfl ?_)
      refine e_seq ?_
      refine c_seq ?_
      refine c_region ?_
      refine o_val (v := .string (bs (s))) (x_move rfl) ?_
      refine o_val (v := .int .i64 ((((s) : Str).length : Int))) (x_len_string Tryz.underlying9 rfl) ?_
      refine o_val (v := .int .i64 ((((s) : Str).length : Int))) (x_assign rfl) ?_
      refine o_val (v := .bool true) (x_assign rfl) ?_
      refine o_nil ?_
      refine e_seq ?_
      refine c_ret (e_ret (post_ret (res_2 (v := .int .i64 ((((s) : Str).length : Int))) (x := .bool true) rfl rfl rfl) ?_))
      have e : s.drop q = [] := List.drop_eq_nil_of_le (by omega)
      rw [e] at hv; cases hv
set_option maxHeartbeats 1000000 in
set_option maxRecDepth 10000 in
theorem plain_c (s : Str) (hl : s.length ≤ 140737488355328) (w0 : World) (hG : Gl w0) : Calls Tryz.prog 88 #[.string (bs s)] w0 (Ret fun v w' => v = .bool (Lib.validD s) ∧ Same [] w0 w') := by
  refine calls_start Tryz.func88 rfl Tryz.ntmps88 (Nat.le_of_ble_eq_true rfl) (args_1 _) ?_
  have hF := FR.start w0 []
  refine c_seq ?_
  refine c_region ?_
  refine o_val (v := .bool false) (x_assign rfl) ?_
  refine o_nil ?_
  refine e_seq ?_
  refine c_seq ?_
  refine c_region ?_
  refine o_val (v := .string (bs (s))) (x_move rfl) ?_
  refine o_call (valid_c s hl _ (hG.ext hF.same)) (x_call1 en_118 rfl rfl) ?_
  rintro _ w ⟨n, rfl, hE⟩
  replace hF := hF.ext hE
  clear hE
  refine o_val (v := .tuple #[.int .i64 (n), .bool (Lib.validD s)]) (x_move rfl) ?_
  refine o_val (v := .int .i64 (n)) (x_extract rfl rfl) ?_
  refine o_val (v := .bool (Lib.validD s)) (x_extract rfl rfl) ?_
  refine o_val (v := .int .i64 (n)) (x_assign rfl) ?_
  refine o_val (v := .bool (Lib.validD s)) (x_assign rfl) ?_
  refine o_nil ?_
  refine e_seq ?_
  refine c_seq ?_
  refine c_region ?_
  refine o_val (v := .bool (Lib.validD s)) (x_move rfl) ?_
  refine o_val (v := .bool (Lib.validD s)) (x_assign rfl) ?_
  refine o_nil ?_
  refine e_seq ?_
  refine c_ret (e_ret (post_ret (res_1 (v := .bool (Lib.validD s)) rfl rfl) ?_))
  exact ⟨rfl, hF.same⟩
set_option maxHeartbeats 1000000 in
set_option maxRecDepth 10000 in
theorem decimal_c (s : Str) (hl : s.length ≤ 140737488355328) (w0 : World) (hG : Gl w0) : Calls Tryz.prog 87 #[.string (bs s)] w0 (Ret fun v w' => v = .tuple #[numV (parseN s).1, .bool (decimalB s)] ∧ Same [] w0 w') := by
  refine calls_start Tryz.func87 rfl Tryz.ntmps87 (Nat.le_of_ble_eq_true rfl) (args_1 _) ?_
  have hF := FR.start w0 []
  refine c_seq ?_
  refine c_region ?_
  refine o_alloc (cs := #[.bool false, .string (bs ([])), .int .i64 (0)]) hF Tryz.zeroValue65 rfl ?_
  clear hF; intro b1 w hb1 hF hE
  clear hE
  refine o_val (v := .bool false) (x_assign rfl) ?_
  refine o_nil ?_
  refine e_seq ?_
  refine c_seq ?_
  refine c_region ?_
  refine o_val (v := .string (bs (s))) (x_move rfl) ?_
  refine o_call (parse_c s hl _) (x_call1 en_93 rfl rfl) ?_
  rintro _ w ⟨rfl, hE⟩
  replace hF := hF.ext hE
  clear hE
  refine o_val (v := .tuple #[.agg #[.bool ((parseN s).1.neg), .string (bs ((parseN s).1.digits)), .int .i64 ((parseN s).1.exp)], .int .i64 ((parseN s).2)]) (x_move rfl) ?_
  refine o_val (v := .agg #[.bool ((parseN s).1.neg), .string (bs ((parseN s).1.digits)), .int .i64 ((parseN s).1.exp)]) (x_extract rfl rfl) ?_
  refine o_val (v := .int .i64 ((parseN s).2)) (x_extract rfl rfl) ?_
  refine o_lay (l := [.bool ((parseN s).1.neg), .string (bs ((parseN s).1.digits)), .int .i64 ((parseN s).1.exp)]) hF Tryz.zeroValue65 Tryz.sizeOf65 rfl (v := .agg #[.bool ((parseN s).1.neg), .string (bs ((parseN s).1.digits)), .int .i64 ((parseN s).1.exp)]) rfl rfl (by simp [one]) rfl ?_
  clear hF; intro b2 w hb2 hF hE
  clear hE
  refine o_val (v := .int .i64 ((parseN s).2)) (x_assign rfl) ?_
  refine o_nil ?_
  refine e_seq ?_
  refine c_seq ?_
  refine c_drawF [] (.free 0 (.free 1 (.free 2 (.free 3 (.free 4 (.free 6 (.act 5 (.free 7 (.free 8 (.act 9 (.free 10 .nil))))))))))) (by kernel_rfl) hF (by kernel_rfl) (by kernel_rfl) ?_
  clear hF; intro w hF hE
  clear hE
  refine ⟨fun wq => FR w0 [] [(b2, .cells #[.bool ((parseN s).1.neg), .string (bs ((parseN s).1.digits)), .int .i64 ((parseN s).1.exp)] 65)] wq, hF.sub (.cons_cons _ (.cons _ .slnil)), ?_⟩
  refine f_free rfl (v := .agg #[.bool ((parseN s).1.neg), .string (bs ((parseN s).1.digits)), .int .i64 ((parseN s).1.exp)]) (fun w hC => x_loadS (l := [.bool ((parseN s).1.neg), .string (bs ((parseN s).1.digits)), .int .i64 ((parseN s).1.exp)]) Tryz.isAgg65 Tryz.sizeOf65 rfl rfl (hC.cellsAll 0 rfl)) ?_
  refine f_free rfl (v := .int .i64 ((parseN s).2)) (fun w hC => x_move rfl) ?_
  refine f_free rfl (v := .bool (decide (((parseN s).2 : Int) = (0 : Int)))) (fun w hC => x_eql rfl rfl) ?_
  refine f_free rfl (v := .bool (decide (((parseN s).2 : Int) = (0 : Int)))) (fun w hC => x_move rfl) ?_
  refine d_splitd (d := 14) (p := ((parseN s).2 : Int) = (0 : Int)) rfl (fun hg0 => ?_) (fun hg0 => ?_)
  ·
    refine f_free rfl (v := .agg #[.bool ((parseN s).1.neg), .string (bs ((parseN s).1.digits)), .int .i64 ((parseN s).1.exp)]) (fun w hC => x_loadS (l := [.bool ((parseN s).1.neg), .string (bs ((parseN s).1.digits)), .int .i64 ((parseN s).1.exp)]) Tryz.isAgg65 Tryz.sizeOf65 rfl rfl (hC.cellsAll 0 rfl)) ?_
    refine f_free rfl (v := .string (bs (s))) (fun w hC => x_move rfl) ?_
    refine f_call rfl (text_c (parseN s).1 (by have := parseN_len s; omega) _ (hG.ext hF.same)) (x_call1 en_64 rfl rfl) ?_
    rintro _ w ⟨rfl, hE⟩
    replace hF := hF.ext hE
    clear hE
    refine ⟨hF.sub (.cons_cons _ (.cons _ .slnil)), ?_⟩
    refine f_free rfl (v := .bool (decide ((textN (parseN s).1 : Str) = s))) (fun w hC => x_eqls rfl rfl) ?_
    refine f_free rfl (v := .bool (decide ((textN (parseN s).1 : Str) = s))) (fun w hC => x_pickt rfl rfl) ?_
    refine f_store rfl 1 (l := [.bool ((parseN s).1.neg), .string (bs ((parseN s).1.digits)), .int .i64 ((parseN s).1.exp)]) (cs' := #[.bool ((parseN s).1.neg), .string (bs ((parseN s).1.digits)), .int .i64 ((parseN s).1.exp)]) hF Tryz.sizeOf65 rfl (v := .agg #[.bool ((parseN s).1.neg), .string (bs ((parseN s).1.digits)), .int .i64 ((parseN s).1.exp)]) rfl rfl (by simp [one]) rfl (Nat.le_of_ble_eq_true rfl) rfl ?_
    clear hF; intro w hF hE
    clear hE
    replace hF : FR w0 [] [(b2, .cells #[.bool ((parseN s).1.neg), .string (bs ((parseN s).1.digits)), .int .i64 ((parseN s).1.exp)] 65), (b1, .cells #[.bool ((parseN s).1.neg), .string (bs ((parseN s).1.digits)), .int .i64 ((parseN s).1.exp)] 65)] w := hF
    refine ⟨hF.sub (.cons_cons _ (.cons _ .slnil)), ?_⟩
    refine f_free rfl (v := .bool (decide ((textN (parseN s).1 : Str) = s))) (fun w hC => x_assign rfl) ?_
    refine d_nil ?_
    refine e_seq ?_
    refine c_ret (e_ret (post_ret (res_ct rfl (l := [.bool ((parseN s).1.neg), .string (bs ((parseN s).1.digits)), .int .i64 ((parseN s).1.exp)]) rfl Tryz.isAgg65 Tryz.sizeOf65 rfl (hF.cellsAll 1 rfl) (v := .bool (decide ((textN (parseN s).1 : Str) = s))) rfl) ?_))
    exact ⟨by simp_all [decimalB, numV], hF.same⟩
  ·
    refine f_off rfl ?_
    refine f_off rfl ?_
    refine f_skip rfl ?_ (hF.sub (.cons_cons _ (.cons _ .slnil)))
    refine f_off rfl ?_
    refine f_free rfl (v := .bool false) (fun w hC => x_pickf rfl rfl) ?_
    refine f_store rfl 1 (l := [.bool ((parseN s).1.neg), .string (bs ((parseN s).1.digits)), .int .i64 ((parseN s).1.exp)]) (cs' := #[.bool ((parseN s).1.neg), .string (bs ((parseN s).1.digits)), .int .i64 ((parseN s).1.exp)]) hF Tryz.sizeOf65 rfl (v := .agg #[.bool ((parseN s).1.neg), .string (bs ((parseN s).1.digits)), .int .i64 ((parseN s).1.exp)]) rfl rfl (by simp [one]) rfl (Nat.le_of_ble_eq_true rfl) rfl ?_
    clear hF; intro w hF hE
    clear hE
    replace hF : FR w0 [] [(b2, .cells #[.bool ((parseN s).1.neg), .string (bs ((parseN s).1.digits)), .int .i64 ((parseN s).1.exp)] 65), (b1, .cells #[.bool ((parseN s).1.neg), .string (bs ((parseN s).1.digits)), .int .i64 ((parseN s).1.exp)] 65)] w := hF
    refine ⟨hF.sub (.cons_cons _ (.cons _ .slnil)), ?_⟩
    refine f_free rfl (v := .bool false) (fun w hC => x_assign rfl) ?_
    refine d_nil ?_
    refine e_seq ?_
    refine c_ret (e_ret (post_ret (res_ct rfl (l := [.bool ((parseN s).1.neg), .string (bs ((parseN s).1.digits)), .int .i64 ((parseN s).1.exp)]) rfl Tryz.isAgg65 Tryz.sizeOf65 rfl (hF.cellsAll 1 rfl) (v := .bool false) rfl) ?_))
    exact ⟨by simp_all [decimalB, numV], hF.same⟩
set_option maxHeartbeats 1000000 in
set_option maxRecDepth 10000 in
theorem hole_c (s : Str) (hl : s.length ≤ 140737488355328) (w0 : World) (hG : Gl w0) : Calls Tryz.prog 89 #[.string (bs s)] w0 (Ret fun v w' => v = .bool (holeB s) ∧ Same [] w0 w') := by
  refine calls_start Tryz.func89 rfl Tryz.ntmps89 (Nat.le_of_ble_eq_true rfl) (args_1 _) ?_
  have hF := FR.start w0 []
  refine c_seq ?_
  refine c_region ?_
  refine o_val (v := .bool false) (x_assign rfl) ?_
  refine o_nil ?_
  refine e_seq ?_
  refine c_seq ?_
  refine c_region ?_
  refine o_val (v := .string (bs (s))) (x_move rfl) ?_
  refine o_call (decimal_c s hl _ (hG.ext hF.same)) (x_call1 en_87 rfl rfl) ?_
  rintro _ w ⟨rfl, hE⟩
  replace hF := hF.ext hE
  clear hE
  refine o_val (v := .tuple #[.agg #[.bool ((parseN s).1.neg), .string (bs ((parseN s).1.digits)), .int .i64 ((parseN s).1.exp)], .bool (decimalB s)]) (x_move rfl) ?_
  refine o_val (v := .agg #[.bool ((parseN s).1.neg), .string (bs ((parseN s).1.digits)), .int .i64 ((parseN s).1.exp)]) (x_extract rfl rfl) ?_
  refine o_val (v := .bool (decimalB s)) (x_extract rfl rfl) ?_
  refine o_lay (l := [.bool ((parseN s).1.neg), .string (bs ((parseN s).1.digits)), .int .i64 ((parseN s).1.exp)]) hF Tryz.zeroValue65 Tryz.sizeOf65 rfl (v := .agg #[.bool ((parseN s).1.neg), .string (bs ((parseN s).1.digits)), .int .i64 ((parseN s).1.exp)]) rfl rfl (by simp [one]) rfl ?_
  clear hF; intro b1 w hb1 hF hE
  clear hE
  refine o_val (v := .bool (decimalB s)) (x_assign rfl) ?_
  refine o_nil ?_
  refine e_seq ?_
  refine c_seq ?_
  refine c_region ?_
  refine o_val (v := .agg #[.bool ((parseN s).1.neg), .string (bs ((parseN s).1.digits)), .int .i64 ((parseN s).1.exp)]) (x_loadS (l := [.bool ((parseN s).1.neg), .string (bs ((parseN s).1.digits)), .int .i64 ((parseN s).1.exp)]) Tryz.isAgg65 Tryz.sizeOf65 rfl rfl (hF.cellsAll 0 rfl)) ?_
  refine o_call (numInt_c (parseN s).1 (by have := parseN_len s; omega) _ (hG.ext hF.same)) (x_call1 en_119 rfl rfl) ?_
  rintro _ w ⟨rfl, hE⟩
  replace hF := hF.ext hE
  clear hE
  refine o_val (v := .tuple #[.int .i64 ((intN (parseN s).1).1), .bool ((intN (parseN s).1).2)]) (x_move rfl) ?_
  refine o_val (v := .int .i64 ((intN (parseN s).1).1)) (x_extract rfl rfl) ?_
  refine o_val (v := .bool ((intN (parseN s).1).2)) (x_extract rfl rfl) ?_
  refine o_val (v := .int .i64 ((intN (parseN s).1).1)) (x_assign rfl) ?_
  refine o_val (v := .bool ((intN (parseN s).1).2)) (x_assign rfl) ?_
  refine o_nil ?_
  refine e_seq ?_
  refine c_seq ?_
  refine c_region ?_
  refine o_val (v := .bool (decimalB s)) (x_move rfl) ?_
  refine o_val (v := .bool (decimalB s)) (x_move rfl) ?_
  refine o_split (d := 18) (b := decimalB s) rfl (fun hg0 => ?_) (fun hg0 => ?_)
  ·
    refine o_val (v := .bool ((intN (parseN s).1).2)) (x_move rfl) ?_
    refine o_val (v := .bool ((intN (parseN s).1).2)) (x_pickt rfl rfl) ?_
    refine o_val (v := .bool ((intN (parseN s).1).2)) (x_move rfl) ?_
    refine o_split (d := 21) (b := (intN (parseN s).1).2) rfl (fun hg1 => ?_) (fun hg1 => ?_)
    ·
      refine o_val (v := .int .i64 ((intN (parseN s).1).1)) (x_move rfl) ?_
      refine o_val (v := .bool (decide ((0 : Int) ≤ ((intN (parseN s).1).1 : Int)))) (x_geq rfl rfl) ?_
      refine o_val (v := .bool (decide ((0 : Int) ≤ ((intN (parseN s).1).1 : Int)))) (x_pickt rfl rfl) ?_
      refine o_val (v := .bool (decide ((0 : Int) ≤ ((intN (parseN s).1).1 : Int)))) (x_assign rfl) ?_
      refine o_nil ?_
      refine e_seq ?_
      refine c_ret (e_ret (post_ret (res_1 (v := .bool (decide ((0 : Int) ≤ ((intN (parseN s).1).1 : Int)))) rfl rfl) ?_))
      exact ⟨by simp_all [holeB], hF.same⟩
    ·
      refine o_off ?_
      refine o_off ?_
      refine o_val (v := .bool false) (x_pickf rfl rfl) ?_
      refine o_val (v := .bool false) (x_assign rfl) ?_
      refine o_nil ?_
      refine e_seq ?_
      refine c_ret (e_ret (post_ret (res_1 (v := .bool false) rfl rfl) ?_))
      exact ⟨by simp_all [holeB], hF.same⟩
  ·
    refine o_off ?_
    refine o_val (v := .bool false) (x_pickf rfl rfl) ?_
    refine o_val (v := .bool false) (x_move rfl) ?_
    refine o_off ?_
    refine o_off ?_
    refine o_val (v := .bool false) (x_pickf rfl rfl) ?_
    refine o_val (v := .bool false) (x_assign rfl) ?_
    refine o_nil ?_
    refine e_seq ?_
    refine c_ret (e_ret (post_ret (res_1 (v := .bool false) rfl rfl) ?_))
    exact ⟨by simp_all [holeB], hF.same⟩
end Go.Scarf
