/- A part of the proof. -/
import Derived.Test.YtpliibolgknenaaGreatDoorFacts
import Derived.Test.YtpliibolgknenaaGreatDoorNum
import Derived.Test.YtpliibolgknenaaGreatDoorShelf
set_option linter.all false
namespace Go.Scarf
open Go.RowKit Go.Proofs
theorem run_equal_num (w : World) (a b : Num) : (Op.equal 72 (numV a) (numV b)).run Tryz.prog w = .ok (decide (a = b)) w := by
  obtain ⟨p, a, m⟩ := a
  obtain ⟨q, b, n⟩ := b
  have h := bs_beq a b
  simp only [numV, Num.mk.injEq]
  generalize bs a = u at *
  generalize bs b = v at *
  simp [Op.equal, Op.maxDepth, run_equalIn_struct, go_sem]
  have h' : u.toList = v.toList ↔ a = b := by
    rw [← decide_eq_true_eq (p := a = b), ← h, beq_iff_eq]
  by_cases h1 : p = q <;> by_cases h2 : a = b <;> by_cases h3 : m = n <;> simp [h1, h2, h3, h'.2, show ¬ a = b → ¬ u.toList = v.toList from fun hn he => hn (h'.1 he)]
theorem x_eqlN {ρ : Operand → Value} {w : World} {dst : Option Nat} {ty : TypeId} {pos : String} {aft : Array Edge} {g : Option (Nat × Bool)} {x y : Operand} {a b : Num} (hx : ρ x = numV a) (hy : ρ y = numV b) :
    (execOp ρ ⟨dst, .binOp .eql 72 x y 72, ty, pos, aft, g⟩).run Tryz.prog w = .ok (.value (.bool (decide (a = b)))) w := by
  have hg : (eqGuard .eql 72 x y (numV a) (numV b)).run Tryz.prog w = .ok () w := by
    simp [eqGuard, numV]
  have h := run_equal_num w a b
  simp only [execOp, hx, hy, Sem.run_bind, hg, Result.andThen_ok]
  have hb : (binOp .eql 72 (numV a) (numV b)).run Tryz.prog w = .ok (.bool (decide (a = b))) w := by
    simp only [numV, binOp] at h ⊢
    simp only [Sem.run_bind, h, Result.andThen_ok, Sem.run_pure]
  rw [hb]; rfl
theorem cutPrefix_c (s q : Str) (w : World) : Calls Tryz.prog 100 #[.string (bs s), .string (bs q)] w (Ret fun v w' => v = .tuple #[.string (bs (Lib.trimPrefix s q)), .bool (Lib.hasPrefix s q)] ∧ Same [] w w') := ret_same (Tryz.strings_CutPrefix (bs s) (bs q) w)
theorem trimPrefix_c (s q : Str) (w : World) : Calls Tryz.prog 102 #[.string (bs s), .string (bs q)] w (Ret fun v w' => v = .string (bs (Lib.trimPrefix s q)) ∧ Same [] w w') := ret_same (Tryz.strings_TrimPrefix (bs s) (bs q) w)
theorem trimLeft0_c (s : Str) (w : World) : Calls Tryz.prog 84 #[.string (bs s), .string (bs [48])] w (Ret fun v w' => v = .string (bs (Lib.trimLeftB s 48)) ∧ Same [] w w') := ret_same (Tryz.strings_TrimLeft_one (bs s) 48 (by decide) w)
theorem trimRight0_c (s : Str) (w : World) (h : s.length ≤ 9223372036854775807) : Calls Tryz.prog 85 #[.string (bs s), .string (bs [48])] w (Ret fun v w' => v = .string (bs (Lib.trimRightB s 48)) ∧ Same [] w w') := ret_same (Tryz.strings_TrimRight_one (bs s) 48 (by decide) w h)
theorem indexByte_c (s : Str) (c : UInt8) (w : World) : Calls Tryz.prog 142 #[.string (bs s), .int .u8 (c.toNat : Int)] w (Ret fun v w' => v = .int .i64 (Lib.indexByte s c) ∧ Same [] w w') := by
  have := ret_same (Tryz.strings_IndexByte (bs s) (c.toNat : Int) w)
  simpa using this
set_option maxHeartbeats 1000000 in
set_option maxRecDepth 10000 in
theorem digits_c (s : Str) (w0 : World) : Calls Tryz.prog 81 #[.string (bs s)] w0 (Ret fun v w' => v = .bool (digs s) ∧ Same [] w0 w') := by
 refine calls_start Tryz.func81 rfl Tryz.ntmps81 (Nat.le_of_ble_eq_true rfl) (args_1 _) ?_
 have hF := FR.start w0 []
 refine c_seq (c_region (o_val (x_assign rfl) (o_nil (e_seq (c_seq (c_seq (c_region (o_val (x_move rfl) ?_))))))))
 refine o_rangeS (str := s) hF Tryz.underlying9 rfl ?_
 clear hF; rintro b1 w hb1 hF -
 refine o_nil (e_seq (c_block ?_))
 refine c_loop (fun μ σ w => ∃ (q : Nat), μ = s.length - q ∧ (q ≤ s.length) ∧ ((s.take q).all isDig = true) ∧ AllEq σ [(0, .string (bs (s))), (6, .pointer (some ⟨b1, 0, none⟩))] ∧ FR w0 [] [(b1, .stringIter (bs (s)) (q))] w) _ ⟨0, rfl, (Nat.zero_le _), (by simp), ⟨rfl, rfl, trivial⟩, hF⟩ ?_
 clear hF; rintro μ σ w ⟨q, rfl, hq, ha, hs, hF⟩
 refine Cg.slots hs ?_
 clear hs; intro σ
 refine c_seq (c_region ?_)
 by_cases hn0 : (q) < (s : Str).length
 refine o_nextS 0 (p := q) (str := s) hF rfl rfl hn0 ?_
 clear hF; rintro w hF -
 replace hF : FR w0 [] [(b1, .stringIter (bs (s)) (q + (Utf8.decode (bs (s)) (q)).2))] w := hF
 refine o_val (x_extract rfl rfl) (o_nil (e_seq (c_seq (c_ift rfl (c_skip (e_seq (c_block (c_seq (c_region (o_val (x_extract rfl rfl) (o_val (x_assign rfl) (o_nil (e_seq ?_)))))))))))))
 refine c_seq (c_region (o_val (x_move rfl) (o_val (v := .bool (decide ((((Utf8.decode (bs (s)) (q)).1 : Int) : Int) < (48 : Int)))) (x_lss rfl rfl) (o_val (x_move rfl) ?_))))
 refine o_splitd (d := 12) (p := (((Utf8.decode (bs (s)) (q)).1 : Int) : Int) < (48 : Int)) rfl (fun hg1 => ?_) (fun hg1 => ?_)
 refine o_off (o_off (o_val (x_pickt rfl rfl) (o_nil (e_seq (c_ift rfl (c_seq (c_region (o_val (x_assign rfl) (o_nil (e_seq ?_))))))))))
 refine c_ret (e_ret (post_ret (res_1 (v := .bool false) rfl rfl) ?_))
 have hd := (decode_dig s q (by omega)).2 (by omega)
 exact ⟨by unfold digs; rw [not_all_of (by omega) hd]; simp, hF.same⟩
 refine o_val (x_move rfl) (o_val (v := .bool (decide ((57 : Int) < (((Utf8.decode (bs (s)) (q)).1 : Int) : Int)))) (x_gtr rfl rfl) (o_val (x_pickf rfl rfl) (o_nil (e_seq ?_))))
 refine c_splitd (d := 15) (p := (57 : Int) < (((Utf8.decode (bs (s)) (q)).1 : Int) : Int)) rfl (fun hc1 => ?_) (fun hc1 => ?_)
 refine c_ift rfl (c_seq (c_region (o_val (x_assign rfl) (o_nil (e_seq ?_)))))
 refine c_ret (e_ret (post_ret (res_1 (v := .bool false) rfl rfl) ?_))
 have hd := (decode_dig s q (by omega)).2 (by omega)
 exact ⟨by unfold digs; rw [not_all_of (by omega) hd]; simp, hF.same⟩
 refine c_iff rfl (c_skip (e_block ?_))
 have hd := (decode_dig s q (by omega)).1 ⟨by omega, by omega⟩
 rw [hd.2] at hF
 refine e_inv ⟨_, ?_, q + 1, rfl, (by omega), (all_take_succ (by omega) ha hd.1), ⟨rfl, rfl, trivial⟩, hF⟩
 omega
 refine o_nextSend 0 (p := q) (str := s) hF rfl rfl hn0 ?_
 refine o_val (x_extract rfl rfl) (o_nil (e_seq (c_seq (c_iff rfl ?_))))
 refine c_exit (e_exit rfl ?_)
 refine e_seq (c_seq (c_region (o_val (x_move rfl) (o_val (v := .bool (decide ((s : Str) ≠ []))) (x_neqs rfl rfl) (o_val (x_assign rfl) (o_nil (e_seq ?_)))))))
 refine c_ret (e_ret (post_ret (res_1 (v := .bool (decide ((s : Str) ≠ []))) rfl rfl) ?_))
 have e : s.take q = s := List.take_of_length_le (by omega)
 rw [e] at ha
 exact ⟨by unfold digs; rw [ha]; simp, hF.same⟩
set_option maxHeartbeats 1000000 in
set_option maxRecDepth 10000 in
theorem right_c (x : Num) (hl : x.digits.length ≤ 140737488355328) (w0 : World) : Calls Tryz.prog 58 #[numV x] w0 (Ret fun v w' => v = .bool (rightN x) ∧ Same [] w0 w') := by
 refine calls_start Tryz.func58 rfl Tryz.ntmps58 (Nat.le_of_ble_eq_true rfl) (args_1 _) ?_
 have hF := FR.start w0 []
 refine c_seq (c_region ?_)
 refine o_box (v := .agg #[.bool (x.neg), .string (bs (x.digits)), .int .i64 (x.exp)]) (cs := #[.bool (x.neg), .string (bs (x.digits)), .int .i64 (x.exp)]) hF rfl rfl ?_
 clear hF; rintro b1 w hb1 hF -
 refine o_val (x_assign rfl) (o_nil (e_seq (c_seq (c_region (o_val (v := .pointer (some ⟨b1, 1, none⟩)) (x_fieldAddrO fa_72_1 rfl) (o_val (v := .string (bs (x.digits))) (x_load Tryz.isAgg9 rfl (hF.cell 0 rfl rfl)) (o_val (x_assign rfl) (o_nil (e_seq (c_seq (c_block (c_seq (c_region ?_)))))))))))))
 refine o_val (v := .agg #[.bool (x.neg), .string (bs (x.digits)), .int .i64 (x.exp)]) (x_loadS (l := [.bool (x.neg), .string (bs (x.digits)), .int .i64 (x.exp)]) Tryz.isAgg72 Tryz.sizeOf72 rfl rfl (hF.cellsAll 0 rfl)) ?_
 refine o_val (w' := w) (v := .agg #[.bool false, .string (bs ([])), .int .i64 (0)]) (by kernel_rfl) ?_
 refine o_val (v := .bool (decide (x = Num.zero))) (x_eqlN (a := x) (b := Num.zero) rfl rfl) (o_val (x_assign rfl) (o_nil (e_seq ?_)))
 refine c_splitd (d := 6) (p := x = Num.zero) rfl (fun hc0 => ?_) (fun hc0 => ?_)
 refine c_ift rfl (c_seq (c_region (o_val (x_assign rfl) (o_nil (e_seq ?_)))))
 refine c_ret (e_ret (post_ret (res_1 (v := .bool true) rfl rfl) ?_))
 exact ⟨by rw [rightN_zero hc0], hF.same⟩
 refine c_iff rfl (c_seq (c_seq (c_region (o_val (x_move rfl) ?_))))
 refine o_call (digits_c (x.digits) _) (x_call1 en_81 rfl rfl) ?_
 rintro _ w ⟨rfl, hE⟩
 replace hF := hF.ext hE
 clear hE
 refine o_val (v := .bool (!(digs (x.digits)))) (x_not rfl) (o_val (x_assign rfl) (o_nil (e_seq ?_)))
 refine c_split (d := 10) (b := !(digs (x.digits))) rfl (fun hc1 => ?_) (fun hc1 => ?_)
 refine c_ift rfl (c_skip (e_seq (c_ift rfl (c_seq (c_region (o_val (x_assign rfl) (o_nil (e_seq ?_))))))))
 refine c_ret (e_ret (post_ret (res_1 (v := .bool false) rfl rfl) ?_))
 exact ⟨by rw [rightN_bad0 hc0 hc1], hF.same⟩
 refine c_iff rfl (c_seq (c_region (o_val (x_move rfl) (o_val (v := .int .i64 ((((x.digits) : Str).length : Int))) (x_len_string Tryz.underlying9 rfl) (o_val (v := .bool (decide ((1000 : Int) < ((((x.digits) : Str).length : Int) : Int)))) (x_gtr rfl rfl) (o_val (x_assign rfl) (o_nil (e_seq ?_))))))))
 refine c_splitd (d := 10) (p := (1000 : Int) < ((((x.digits) : Str).length : Int) : Int)) rfl (fun hc2 => ?_) (fun hc2 => ?_)
 refine c_ift rfl (c_skip (e_seq (c_ift rfl (c_seq (c_region (o_val (x_assign rfl) (o_nil (e_seq ?_))))))))
 refine c_ret (e_ret (post_ret (res_1 (v := .bool false) rfl rfl) ?_))
 exact ⟨by rw [rightN_bad1 hc0 hc2], hF.same⟩
 refine c_iff rfl (c_seq (c_region (o_val (x_move rfl) ?_)))
 refine o_val (v := .int .u8 ((((x.digits : Str)[0]'(List.length_pos_iff.2 (digs_ne (by simpa using hc1)))).toNat : Int))) (x_index (0) Tryz.underlying9 rfl rfl (List.length_pos_iff.2 (digs_ne (by simpa using hc1)))) ?_
 refine o_val (v := .bool (decide (((((x.digits : Str)[0]'(List.length_pos_iff.2 (digs_ne (by simpa using hc1)))).toNat : Int) : Int) = (48 : Int)))) (x_eql rfl rfl) ?_
 refine o_val (x_assign rfl) ?_
 refine o_nil (e_seq ?_)
 refine c_splitd (d := 10) (p := ((((x.digits : Str)[0]'(List.length_pos_iff.2 (digs_ne (by simpa using hc1)))).toNat : Int) : Int) = (48 : Int)) rfl (fun hc3 => ?_) (fun hc3 => ?_)
 refine c_ift rfl (c_skip (e_seq (c_ift rfl (c_seq (c_region (o_val (x_assign rfl) (o_nil (e_seq ?_))))))))
 refine c_ret (e_ret (post_ret (res_1 (v := .bool false) rfl rfl) ?_))
 exact ⟨by rw [rightN_bad2 hc0 _ hc3], hF.same⟩
 refine c_iff rfl (c_region (o_val (x_move rfl) (o_val (x_move rfl) (o_val (v := .int .i64 ((((x.digits) : Str).length : Int))) (x_len_string Tryz.underlying9 rfl) ?_))))
 refine o_val (v := .int .i64 (((x.digits.length - 1 : Nat) : Int))) (x_sub rfl rfl (wrap_to (by have := List.length_pos_iff.2 (digs_ne (s := x.digits) (by simpa using hc1)); omega) (by omega) (by omega))) ?_
 refine o_val (v := .int .u8 ((((x.digits : Str)[x.digits.length - 1]'(by have := List.length_pos_iff.2 (digs_ne (s := x.digits) (by simpa using hc1)); omega)).toNat : Int))) (x_index (x.digits.length - 1) Tryz.underlying9 rfl rfl (by have := List.length_pos_iff.2 (digs_ne (s := x.digits) (by simpa using hc1)); omega)) ?_
 refine o_val (v := .bool (decide (((((x.digits : Str)[x.digits.length - 1]'(by have := List.length_pos_iff.2 (digs_ne (s := x.digits) (by simpa using hc1)); omega)).toNat : Int) : Int) = (48 : Int)))) (x_eql rfl rfl) ?_
 refine o_val (x_assign rfl) ?_
 refine o_nil (e_seq ?_)
 refine c_splitd (d := 10) (p := ((((x.digits : Str)[x.digits.length - 1]'(by have := List.length_pos_iff.2 (digs_ne (s := x.digits) (by simpa using hc1)); omega)).toNat : Int) : Int) = (48 : Int)) rfl (fun hc4 => ?_) (fun hc4 => ?_)
 refine c_ift rfl (c_seq (c_region (o_val (x_assign rfl) (o_nil (e_seq ?_)))))
 refine c_ret (e_ret (post_ret (res_1 (v := .bool false) rfl rfl) ?_))
 exact ⟨by rw [rightN_bad3 hc0 _ hc4], hF.same⟩
 refine c_iff rfl (c_skip (e_block (e_seq (c_seq (c_region (o_val (v := .pointer (some ⟨b1, 2, none⟩)) (x_fieldAddrO fa_72_2 rfl) (o_val (v := .int .i64 (x.exp)) (x_load Tryz.isAgg3 rfl (hF.cell 0 rfl rfl)) (o_val (v := .bool (decide (((-1000000) : Int) ≤ (x.exp : Int)))) (x_geq rfl rfl) (o_val (x_move rfl) ?_)))))))))
 refine o_splitd (d := 29) (p := ((-1000000) : Int) ≤ (x.exp : Int)) rfl (fun hg0 => ?_) (fun hg0 => ?_)
 refine o_val (v := .pointer (some ⟨b1, 2, none⟩)) (x_fieldAddrO fa_72_2 rfl) (o_val (v := .int .i64 (x.exp)) (x_load Tryz.isAgg3 rfl (hF.cell 0 rfl rfl)) (o_val (v := .bool (decide ((x.exp : Int) ≤ (1000000 : Int)))) (x_leq rfl rfl) (o_val (x_pickt rfl rfl) (o_val (x_assign rfl) (o_nil (e_seq ?_))))))
 refine c_ret (e_ret (post_ret (res_1 (v := .bool (decide ((x.exp : Int) ≤ (1000000 : Int)))) rfl rfl) ?_))
 exact ⟨by rw [rightN_end hc0 hc1 hc2 _ hc3 _ hc4]; simp [hg0], hF.same⟩
 refine o_off (o_off (o_off (o_val (x_pickf rfl rfl) (o_val (x_assign rfl) (o_nil (e_seq ?_))))))
 refine c_ret (e_ret (post_ret (res_1 (v := .bool false) rfl rfl) ?_))
 exact ⟨by rw [rightN_end hc0 hc1 hc2 _ hc3 _ hc4]; simp [hg0], hF.same⟩
def bruTab : List Int := [0, 1, 56, 2, 57, 49, 28, 3, 61, 58, 42, 50, 38, 29, 17, 4, 62, 47, 59, 36, 45, 43, 51, 22, 53, 39, 33, 30, 24, 18, 12, 5, 63, 55, 48, 27, 60, 41, 37, 16, 46, 35, 44, 21, 52, 32, 23, 11, 54, 26, 40, 15, 34, 20, 31, 10, 25, 14, 19, 9, 13, 8, 7, 6]
structure Gl (w : World) : Prop where
  size : 7 ≤ w.heap.size
  tabs : Lib.Utf8Tabs 0 1 w
  pow : ∃ e fz, w.heap[2]? = some (.cells (Lib.pow10Tab.map (fun z => Value.int .u64 z)).toArray e fz)
  rng : ∃ tp q e fz, w.heap[4]? = some (.cells #[.iface tp q] e fz)
  syn : ∃ tp q e fz, w.heap[3]? = some (.cells #[.iface tp q] e fz)
  bru : ∃ e fz, w.heap[6]? = some (.cells (bruTab.map (fun z => Value.int .u8 z)).toArray e fz)
theorem Gl.same {w w' : World} {Ds : List Nat} (h : Gl w) (hs : Same Ds w w') (hd : ∀ b ∈ Ds, 7 ≤ b) : Gl w' := by
  have hb : ∀ b, b < 7 → w'.heap[b]? = w.heap[b]? := fun b hb => hs.block b (Nat.lt_of_lt_of_le hb h.size) (fun hi => by have := hd b hi; omega)
  refine ⟨Nat.le_trans h.size hs.size, ⟨fun c hc => ?_, fun i hi => ⟨?_, ?_⟩⟩, ?_, ?_, ?_, ?_⟩
  · rw [← h.tabs.1 c hc]; exact World.cell?_of_block (w := w) (hb 0 (by omega))
  · rw [← (h.tabs.2 i hi).1]; exact World.cell?_of_block (w := w) (hb 1 (by omega))
  · rw [← (h.tabs.2 i hi).2]; exact World.cell?_of_block (w := w) (hb 1 (by omega))
  · rw [hb 2 (by omega)]; exact h.pow
  · rw [hb 4 (by omega)]; exact h.rng
  · rw [hb 3 (by omega)]; exact h.syn
  · rw [hb 6 (by omega)]; exact h.bru
theorem Gl.ext {w w' : World} (h : Gl w) (hs : Same [] w w') : Gl w' := h.same hs (by simp)
theorem Gl.tabIs {w : World} (h : Gl w) : Lib.TabIs Tryz.prog w "internal/strconv.uint64pow10" IntKind.u64 Lib.pow10Tab := by
  obtain ⟨e, fz, hh⟩ := h.pow
  have hg : Tryz.prog.globalNamed "internal/strconv.uint64pow10" = some 2 := by kernel_rfl
  simp [Lib.TabIs, World.var?, hg, hh]
theorem Gl.err {w : World} (h : Gl w) : ∃ tp q, World.var? Tryz.prog w "strconv.ErrRange" = some #[.iface tp q] := by
  obtain ⟨tp, q, e, fz, hh⟩ := h.rng
  have hg : Tryz.prog.globalNamed "strconv.ErrRange" = some 4 := by kernel_rfl
  exact ⟨tp, q, by simp [World.var?, hg, hh]⟩
theorem Gl.serr {w : World} (h : Gl w) : ∃ tp q, World.var? Tryz.prog w "strconv.ErrSyntax" = some #[.iface tp q] := by
  obtain ⟨tp, q, e, fz, hh⟩ := h.syn
  have hg : Tryz.prog.globalNamed "strconv.ErrSyntax" = some 3 := by kernel_rfl
  exact ⟨tp, q, by simp [World.var?, hg, hh]⟩
theorem same_grow (w : World) (k : Nat) (os : Array Obj) : Same [] w (Go.Sort.grow (w.drewN k) os) :=
  ⟨rfl, rfl, rfl, by rw [Go.Sort.size_grow]; exact Nat.le_add_right _ _, fun b hb _ => Go.Sort.heap_grow_old (w.drewN k) os hb⟩
theorem itoa_c (n : Int) (h1 : -9223372036854775808 ≤ n) (h2 : n ≤ 9223372036854775807) {w : World} (hG : Gl w) : Calls Tryz.prog 59 #[.int .i64 n] w (Ret fun v w' => v = .string (bs (Lib.itoa n)) ∧ Same [] w w') :=
  (Tryz.strconv_Itoa n h1 h2 w hG.tabIs).mono fun e w' ⟨he, k, os, hw⟩ => ⟨_, he, rfl, by subst hw; exact same_grow w k os⟩
set_option maxHeartbeats 1000000 in
set_option maxRecDepth 10000 in
theorem text_c (x : Num) (hl : x.digits.length ≤ 140737488355328) (w0 : World) (hG : Gl w0) : Calls Tryz.prog 37 #[numV x] w0 (Ret fun v w' => v = .string (bs (textN x)) ∧ Same [] w0 w') := by
 refine calls_start Tryz.func37 rfl Tryz.ntmps37 (Nat.le_of_ble_eq_true rfl) (args_1 _) ?_
 have hF := FR.start w0 []
 refine c_seq (c_region ?_)
 refine o_box (v := .agg #[.bool (x.neg), .string (bs (x.digits)), .int .i64 (x.exp)]) (cs := #[.bool (x.neg), .string (bs (x.digits)), .int .i64 (x.exp)]) hF rfl rfl ?_
 clear hF; rintro b1 w hb1 hF -
 refine o_val (x_assign rfl) (o_nil (e_seq (c_seq (c_seq (c_region (o_val (v := .agg #[.bool (x.neg), .string (bs (x.digits)), .int .i64 (x.exp)]) (x_loadS (l := [.bool (x.neg), .string (bs (x.digits)), .int .i64 (x.exp)]) Tryz.isAgg72 Tryz.sizeOf72 rfl rfl (hF.cellsAll 0 rfl)) ?_))))))
 refine o_call (right_c x hl _) (x_call1 en_58 rfl rfl) ?_
 rintro _ w ⟨rfl, hE⟩
 replace hF := hF.ext hE
 clear hE
 refine o_val (v := .bool (!(rightN x))) (x_not rfl) (o_nil (e_seq ?_))
 refine c_split (d := 6) (b := !(rightN x)) rfl (fun hc0 => ?_) (fun hc0 => ?_)
 refine c_ift rfl (c_seq (c_region (o_val (x_assign rfl) (o_nil (e_seq ?_)))))
 refine c_ret (e_ret (post_ret (res_1 (v := .string (bs ([]))) rfl rfl) ?_))
 refine ⟨?_, hF.same⟩
 simp_all [textN]
 refine c_iff rfl (c_skip (e_seq (c_seq (c_seq (c_region (o_val (v := .pointer (some ⟨b1, 1, none⟩)) (x_fieldAddrO fa_72_1 rfl) (o_val (v := .string (bs (x.digits))) (x_load Tryz.isAgg9 rfl (hF.cell 0 rfl rfl)) (o_val (v := .bool (decide ((x.digits : Str) = []))) (x_eqls rfl rfl) (o_nil (e_seq ?_))))))))))
 refine c_splitd (d := 9) (p := (x.digits : Str) = []) rfl (fun hc1 => ?_) (fun hc1 => ?_)
 refine c_ift rfl (c_seq (c_region (o_val (x_assign rfl) (o_nil (e_seq ?_)))))
 refine c_ret (e_ret (post_ret (res_1 (v := .string (bs ([48]))) rfl rfl) ?_))
 refine ⟨?_, hF.same⟩
 simp_all [textN]
 refine c_iff rfl (c_skip (e_seq (c_seq (c_region (o_val (v := .pointer (some ⟨b1, 1, none⟩)) (x_fieldAddrO fa_72_1 rfl) (o_val (v := .string (bs (x.digits))) (x_load Tryz.isAgg9 rfl (hF.cell 0 rfl rfl)) (o_val (x_assign rfl) (o_nil (e_seq (c_seq (c_seq (c_region (o_val (v := .pointer (some ⟨b1, 0, none⟩)) (x_fieldAddrO fa_72_0 rfl) ?_)))))))))))))
 refine o_val (v := .bool (x.neg)) (x_load Tryz.isAgg4 rfl (hF.cell 0 rfl rfl)) (o_nil (e_seq ?_))
 refine c_split (d := 13) (b := x.neg) rfl (fun hc2 => ?_) (fun hc2 => ?_)
 refine c_ift rfl (c_region (o_val (x_move rfl) ?_))
 refine o_val (v := .string (bs (([45]) ++ (x.digits)))) (x_cat rfl rfl (by simp; omega)) ?_
 refine o_val (x_assign rfl) (o_nil (e_seq (c_seq (c_seq (c_region (o_val (v := .pointer (some ⟨b1, 2, none⟩)) (x_fieldAddrO fa_72_2 rfl) (o_val (v := .int .i64 (x.exp)) (x_load Tryz.isAgg3 rfl (hF.cell 0 rfl rfl)) (o_val (v := .bool (decide ((x.exp : Int) ≠ (0 : Int)))) (x_neq rfl rfl) (o_nil (e_seq ?_))))))))))
 refine c_splitd (d := 18) (p := (x.exp : Int) ≠ (0 : Int)) rfl (fun hc3 => ?_) (fun hc3 => ?_)
 refine c_ift rfl (c_region (o_val (x_move rfl) (o_val (v := .pointer (some ⟨b1, 2, none⟩)) (x_fieldAddrO fa_72_2 rfl) (o_val (v := .int .i64 (x.exp)) (x_load Tryz.isAgg3 rfl (hF.cell 0 rfl rfl)) ?_))))
 refine o_call (itoa_c x.exp (by have := rightN_len (x := x) (by simpa using hc0); omega) (by have := rightN_len (x := x) (by simpa using hc0); omega) (hG.ext hF.same)) (x_call1 en_59 rfl rfl) ?_
 rintro _ w ⟨rfl, hE⟩
 replace hF := hF.ext hE
 clear hE
 refine o_val (v := .string (bs (([101]) ++ (Lib.itoa x.exp)))) (x_cat rfl rfl (by have := Lib.itoa_length_le x.exp (by have := rightN_len (x := x) (by simpa using hc0); omega) (by have := rightN_len (x := x) (by simpa using hc0); omega); simp; omega)) ?_
 refine o_val (v := .string (bs ((([45]) ++ (x.digits)) ++ (([101]) ++ (Lib.itoa x.exp))))) (x_cat rfl rfl (by have := Lib.itoa_length_le x.exp (by have := rightN_len (x := x) (by simpa using hc0); omega) (by have := rightN_len (x := x) (by simpa using hc0); omega); simp; omega)) ?_
 refine o_val (x_assign rfl) (o_nil (e_seq (c_seq (c_region (o_val (x_move rfl) (o_val (x_assign rfl) (o_nil (e_seq ?_))))))))
 refine c_ret (e_ret (post_ret (res_1 (v := .string (bs ((([45]) ++ (x.digits)) ++ (([101]) ++ (Lib.itoa x.exp))))) rfl rfl) ?_))
 refine ⟨?_, hF.same⟩
 simp_all [textN]
 refine c_iff rfl (c_skip (e_seq (c_seq (c_region (o_val (x_move rfl) (o_val (x_assign rfl) (o_nil (e_seq ?_))))))))
 refine c_ret (e_ret (post_ret (res_1 (v := .string (bs (([45]) ++ (x.digits)))) rfl rfl) ?_))
 refine ⟨?_, hF.same⟩
 simp_all [textN]
 refine c_iff rfl (c_skip (e_seq (c_seq (c_seq (c_region (o_val (v := .pointer (some ⟨b1, 2, none⟩)) (x_fieldAddrO fa_72_2 rfl) (o_val (v := .int .i64 (x.exp)) (x_load Tryz.isAgg3 rfl (hF.cell 0 rfl rfl)) (o_val (v := .bool (decide ((x.exp : Int) ≠ (0 : Int)))) (x_neq rfl rfl) (o_nil (e_seq ?_))))))))))
 refine c_splitd (d := 18) (p := (x.exp : Int) ≠ (0 : Int)) rfl (fun hc3 => ?_) (fun hc3 => ?_)
 refine c_ift rfl (c_region (o_val (x_move rfl) (o_val (v := .pointer (some ⟨b1, 2, none⟩)) (x_fieldAddrO fa_72_2 rfl) (o_val (v := .int .i64 (x.exp)) (x_load Tryz.isAgg3 rfl (hF.cell 0 rfl rfl)) ?_))))
 refine o_call (itoa_c x.exp (by have := rightN_len (x := x) (by simpa using hc0); omega) (by have := rightN_len (x := x) (by simpa using hc0); omega) (hG.ext hF.same)) (x_call1 en_59 rfl rfl) ?_
 rintro _ w ⟨rfl, hE⟩
 replace hF := hF.ext hE
 clear hE
 refine o_val (v := .string (bs (([101]) ++ (Lib.itoa x.exp)))) (x_cat rfl rfl (by have := Lib.itoa_length_le x.exp (by have := rightN_len (x := x) (by simpa using hc0); omega) (by have := rightN_len (x := x) (by simpa using hc0); omega); simp; omega)) ?_
 refine o_val (v := .string (bs ((x.digits) ++ (([101]) ++ (Lib.itoa x.exp))))) (x_cat rfl rfl (by have := Lib.itoa_length_le x.exp (by have := rightN_len (x := x) (by simpa using hc0); omega) (by have := rightN_len (x := x) (by simpa using hc0); omega); simp; omega)) ?_
 refine o_val (x_assign rfl) (o_nil (e_seq (c_seq (c_region (o_val (x_move rfl) (o_val (x_assign rfl) (o_nil (e_seq ?_))))))))
 refine c_ret (e_ret (post_ret (res_1 (v := .string (bs ((x.digits) ++ (([101]) ++ (Lib.itoa x.exp))))) rfl rfl) ?_))
 refine ⟨?_, hF.same⟩
 simp_all [textN]
 refine c_iff rfl (c_skip (e_seq (c_seq (c_region (o_val (x_move rfl) (o_val (x_assign rfl) (o_nil (e_seq ?_))))))))
 refine c_ret (e_ret (post_ret (res_1 (v := .string (bs (x.digits))) rfl rfl) ?_))
 refine ⟨?_, hF.same⟩
 simp_all [textN]
set_option maxHeartbeats 1000000 in
set_option maxRecDepth 10000 in
theorem cut_c (s at_ : Str) (hl : s.length ≤ 140737488355328) (w0 : World) : Calls Tryz.prog 101 #[.string (bs s), .string (bs at_)] w0 (Ret fun v w' => v = .tuple #[.string (bs (cutAny at_ s).1), .string (bs (cutAny at_ s).2.1), .bool (cutAny at_ s).2.2] ∧ Same [] w0 w') := by
 refine calls_start Tryz.func101 rfl Tryz.ntmps101 (Nat.le_of_ble_eq_true rfl) (args_2 _ _) ?_
 have hF := FR.start w0 []
 refine c_seq (c_region (o_val (x_assign rfl) (o_val (x_assign rfl) (o_val (x_assign rfl) (o_nil (e_seq (c_seq (c_seq (c_region (o_val (x_move rfl) (o_val (v := .int .i64 ((((s) : Str).length : Int))) (x_len_string Tryz.underlying9 rfl) (o_val (x_move rfl) (o_nil ?_)))))))))))))
 refine e_seq (c_block ?_)
 refine c_loop (fun μ σ w => ∃ (q : Nat), μ = s.length - q ∧ (q ≤ s.length) ∧ (∀ c ∈ s.take q, at_.contains c = false) ∧ AllEq σ [(0, .string (bs (s))), (1, .string (bs (at_))), (9, .int .i64 ((((s) : Str).length : Int))), (10, .int .i64 ((q : Int)))] ∧ FR w0 [] [] w) _ ⟨0, rfl, (Nat.zero_le _), (by simp), ⟨rfl, rfl, rfl, rfl, trivial⟩, hF⟩ ?_
 clear hF; rintro μ σ w ⟨q, rfl, hq, hno, hs, hF⟩
 refine Cg.slots hs ?_
 clear hs; intro σ
 refine c_seq (c_region (o_val (v := .bool (decide (((q : Int) : Int) < ((((s) : Str).length : Int) : Int)))) (x_lss rfl rfl) (o_nil (e_seq (c_seq ?_)))))
 refine c_splitd (d := 11) (p := ((q : Int) : Int) < ((((s) : Str).length : Int) : Int)) rfl (fun hc0 => ?_) (fun hc0 => ?_)
 refine c_ift rfl (c_skip (e_seq (c_seq (c_block (c_seq (c_region (o_val (x_move rfl) (o_val (x_assign rfl) (o_nil (e_seq (c_seq (c_region (o_val (x_move rfl) ?_)))))))))))))
 refine o_val (x_move rfl) (o_val (x_move rfl) (o_val (v := .int .u8 ((((s : Str)[q]'(by omega)).toNat : Int))) (x_index (q) Tryz.underlying9 rfl rfl (by omega)) ?_))
 refine o_call (indexByte_c at_ _ _) (x_call2 en_142 rfl rfl rfl) ?_
 rintro _ w ⟨rfl, hE⟩
 replace hF := hF.ext hE
 clear hE
 refine o_val (v := .bool (decide ((0 : Int) ≤ (Lib.indexByte at_ s[q] : Int)))) (x_geq rfl rfl) (o_nil (e_seq ?_))
 refine c_splitd (d := 18) (p := (0 : Int) ≤ (Lib.indexByte at_ s[q] : Int)) rfl (fun hc1 => ?_) (fun hc1 => ?_)
 refine c_ift rfl (c_seq ?_)
 refine c_drawF [] (.free 0 (.free 1 (.free 2 (.free 3 (.free 4 (.free 5 (.free 6 (.free 7 (.free 8 (.free 9 .nil)))))))))) (by kernel_rfl) hF (by kernel_rfl) (by kernel_rfl) ?_
 clear hF; rintro w hF -
 refine ⟨fun wq => FR w0 [] [] wq, hF, ?_⟩
 refine f_free rfl (v := .string (bs (s))) (fun w hC => x_move rfl) (f_free rfl (v := .int .i64 ((q : Int))) (fun w hC => x_move rfl) (f_free rfl (v := .string (bs ((s : Str).take (q)))) (fun w hC => x_sliceH (q) Tryz.underlying9 rfl rfl (by omega)) (f_free rfl (v := .string (bs (s))) (fun w hC => x_move rfl) (f_free rfl (v := .int .i64 ((q : Int))) (fun w hC => x_move rfl) (f_free rfl (v := .int .i64 (((q + 1 : Nat) : Int))) (fun w hC => x_add rfl rfl (wrap_to (by omega) (by omega) (by omega))) (f_free rfl (v := .string (bs ((s : Str).drop (q + 1)))) (fun w hC => x_sliceL (q + 1) Tryz.underlying9 rfl rfl (by omega)) (f_free rfl (v := .string (bs ((s : Str).take (q)))) (fun w hC => x_assign rfl) (f_free rfl (v := .string (bs ((s : Str).drop (q + 1)))) (fun w hC => x_assign rfl) (f_free rfl (v := .bool true) (fun w hC => x_assign rfl) (d_nil (e_seq ?_)))))))))))
 refine c_ret (e_ret (post_ret (res_3 (v := .string (bs ((s : Str).take (q)))) (x := .string (bs ((s : Str).drop (q + 1)))) (y := .bool true) rfl rfl rfl rfl) ?_))
 exact ⟨by rw [cutAny_at (by omega) hno (indexByte_nonneg hc1)], hF.same⟩
 refine c_iff rfl (c_skip (e_block (e_seq (c_region (o_val (v := .int .i64 (((q : Int) : Int) + 1)) (x_add rfl rfl (wrap_id (by omega) (by omega))) (o_val (x_move rfl) (o_nil ?_)))))))
 refine e_inv ⟨_, ?_, q + 1, rfl, (by omega), (take_no (by omega) hno (indexByte_neg hc1)), ⟨rfl, rfl, rfl, rfl, trivial⟩, hF⟩
 omega
 refine c_iff rfl ?_
 refine c_exit (e_exit rfl ?_)
 refine e_seq (c_seq (c_region (o_val (x_move rfl) (o_val (x_assign rfl) (o_val (x_assign rfl) (o_val (x_assign rfl) (o_nil (e_seq ?_))))))))
 refine c_ret (e_ret (post_ret (res_3 (v := .string (bs (s))) (x := .string (bs ([]))) (y := .bool false) rfl rfl rfl rfl) ?_))
 have e : s.take q = s := List.take_of_length_le (by omega)
 rw [e] at hno
 exact ⟨by rw [cutAny_no hno], hF.same⟩
set_option maxHeartbeats 4000000 in
set_option maxRecDepth 10000 in
theorem read_c (s : Str) (hl : s.length ≤ 140737488355328) (w0 : World) : Calls Tryz.prog 83 #[.string (bs s)] w0 (Ret fun v w' => v = .tuple #[litV (readN s).1, .bool (readN s).2] ∧ Same [] w0 w') := by
 refine calls_start Tryz.func83 rfl Tryz.ntmps83 (Nat.le_of_ble_eq_true rfl) (args_1 _) ?_
 have hF := FR.start w0 []
 refine c_seq (c_region ?_)
 refine o_alloc (cs := #[.bool false, .bool false, .string (bs ([])), .string (bs ([])), .string (bs ([]))]) hF Tryz.zeroValue110 rfl ?_
 clear hF; rintro b1 w hb1 hF -
 refine o_val (x_assign rfl) (o_nil (e_seq (c_seq (c_region (o_val (x_move rfl) ?_)))))
 refine o_call (cutPrefix_c s [45] _) (x_call2 en_100 rfl rfl rfl) ?_
 rintro _ w ⟨rfl, hE⟩
 replace hF := hF.ext hE
 clear hE
 refine o_val (x_move rfl) (o_val (x_extract rfl rfl) (o_val (x_extract rfl rfl) (o_val (x_assign rfl) (o_val (v := .pointer (some ⟨b1, 0, none⟩)) (x_fieldAddrO fa_110_0 rfl) ?_))))
 refine o_store 0 (l := [.bool (Lib.hasPrefix s [45])]) (cs' := #[.bool (Lib.hasPrefix s [45]), .bool false, .string (bs ([])), .string (bs ([])), .string (bs ([]))]) hF Tryz.sizeOf4 rfl (v := .bool (Lib.hasPrefix s [45])) rfl rfl (by simp [one]) rfl (Nat.le_of_ble_eq_true rfl) rfl ?_
 clear hF; rintro w hF -
 replace hF : FR w0 [] [(b1, .cells #[.bool (Lib.hasPrefix s [45]), .bool false, .string (bs ([])), .string (bs ([])), .string (bs ([]))] 110)] w := hF
 refine o_nil (e_seq (c_seq (c_region (o_val (x_move rfl) ?_))))
 refine o_call (cut_c (Lib.trimPrefix s [45]) [101, 69] (by have := trimPrefix_len s [45]; have := cutAny_fst_len [101, 69] (Lib.trimPrefix s [45]); omega) _) (x_call2 en_101 rfl rfl rfl) ?_
 rintro _ w ⟨rfl, hE⟩
 replace hF := hF.ext hE
 clear hE
 refine o_val (x_move rfl) (o_val (x_extract rfl rfl) (o_val (x_extract rfl rfl) (o_val (x_extract rfl rfl) (o_val (x_assign rfl) (o_val (x_assign rfl) (o_val (x_assign rfl) (o_nil (e_seq (c_seq (c_seq (c_region (o_val (x_move rfl) (o_nil ?_)))))))))))))
 refine e_seq ?_
 refine c_split (d := 21) (b := (cutAny [101, 69] (Lib.trimPrefix s [45])).2.2) rfl (fun hc0 => ?_) (fun hc0 => ?_)
 refine c_ift rfl (c_seq (c_region (o_val (x_move rfl) ?_)))
 refine o_call (cutPrefix_c ((cutAny [101, 69] (Lib.trimPrefix s [45])).2.1) [45] _) (x_call2 en_100 rfl rfl rfl) ?_
 rintro _ w ⟨rfl, hE⟩
 replace hF := hF.ext hE
 clear hE
 refine o_val (x_move rfl) (o_val (x_extract rfl rfl) (o_val (x_extract rfl rfl) (o_val (x_assign rfl) (o_val (v := .pointer (some ⟨b1, 1, none⟩)) (x_fieldAddrO fa_110_1 rfl) ?_))))
 refine o_store 0 (l := [.bool (Lib.hasPrefix ((cutAny [101, 69] (Lib.trimPrefix s [45])).2.1) [45])]) (cs' := #[.bool (Lib.hasPrefix s [45]), .bool (Lib.hasPrefix ((cutAny [101, 69] (Lib.trimPrefix s [45])).2.1) [45]), .string (bs ([])), .string (bs ([])), .string (bs ([]))]) hF Tryz.sizeOf4 rfl (v := .bool (Lib.hasPrefix ((cutAny [101, 69] (Lib.trimPrefix s [45])).2.1) [45])) rfl rfl (by simp [one]) rfl (Nat.le_of_ble_eq_true rfl) rfl ?_
 clear hF; rintro w hF -
 replace hF : FR w0 [] [(b1, .cells #[.bool (Lib.hasPrefix s [45]), .bool (Lib.hasPrefix ((cutAny [101, 69] (Lib.trimPrefix s [45])).2.1) [45]), .string (bs ([])), .string (bs ([])), .string (bs ([]))] 110)] w := hF
 refine o_nil (e_seq (c_seq (c_seq (c_region (o_val (v := .pointer (some ⟨b1, 1, none⟩)) (x_fieldAddrO fa_110_1 rfl) (o_val (v := .bool (Lib.hasPrefix ((cutAny [101, 69] (Lib.trimPrefix s [45])).2.1) [45])) (x_load Tryz.isAgg4 rfl (hF.cell 0 rfl rfl)) (o_val (v := .bool (!(Lib.hasPrefix ((cutAny [101, 69] (Lib.trimPrefix s [45])).2.1) [45]))) (x_not rfl) (o_nil (e_seq ?_)))))))))
 refine c_split (d := 30) (b := !(Lib.hasPrefix ((cutAny [101, 69] (Lib.trimPrefix s [45])).2.1) [45])) rfl (fun hc1 => ?_) (fun hc1 => ?_)
 refine c_ift rfl (c_region (o_val (x_move rfl) ?_))
 refine o_call (trimPrefix_c (Lib.trimPrefix ((cutAny [101, 69] (Lib.trimPrefix s [45])).2.1) [45]) [43] _) (x_call2 en_102 rfl rfl rfl) ?_
 rintro _ w ⟨rfl, hE⟩
 replace hF := hF.ext hE
 clear hE
 refine o_val (x_assign rfl) (o_nil (e_seq (c_seq (c_region (o_val (x_move rfl) ?_)))))
 refine o_call (digits_c (Lib.trimPrefix (Lib.trimPrefix ((cutAny [101, 69] (Lib.trimPrefix s [45])).2.1) [45]) [43]) _) (x_call1 en_81 rfl rfl) ?_
 rintro _ w ⟨rfl, hE⟩
 replace hF := hF.ext hE
 clear hE
 refine o_val (v := .bool (!(digs (Lib.trimPrefix (Lib.trimPrefix ((cutAny [101, 69] (Lib.trimPrefix s [45])).2.1) [45]) [43])))) (x_not rfl) (o_nil (e_seq ?_))
 refine c_split (d := 35) (b := !(digs (Lib.trimPrefix (Lib.trimPrefix ((cutAny [101, 69] (Lib.trimPrefix s [45])).2.1) [45]) [43]))) rfl (fun hc2 => ?_) (fun hc2 => ?_)
 refine c_ift rfl (c_seq (c_region (o_val (v := .agg #[.bool (Lib.hasPrefix s [45]), .bool (Lib.hasPrefix ((cutAny [101, 69] (Lib.trimPrefix s [45])).2.1) [45]), .string (bs ([])), .string (bs ([])), .string (bs ([]))]) (x_loadS (l := [.bool (Lib.hasPrefix s [45]), .bool (Lib.hasPrefix ((cutAny [101, 69] (Lib.trimPrefix s [45])).2.1) [45]), .string (bs ([])), .string (bs ([])), .string (bs ([]))]) Tryz.isAgg110 Tryz.sizeOf110 rfl rfl (hF.cellsAll 0 rfl)) ?_)))
 refine o_store 0 (l := [.bool (Lib.hasPrefix s [45]), .bool (Lib.hasPrefix ((cutAny [101, 69] (Lib.trimPrefix s [45])).2.1) [45]), .string (bs ([])), .string (bs ([])), .string (bs ([]))]) (cs' := #[.bool (Lib.hasPrefix s [45]), .bool (Lib.hasPrefix ((cutAny [101, 69] (Lib.trimPrefix s [45])).2.1) [45]), .string (bs ([])), .string (bs ([])), .string (bs ([]))]) hF Tryz.sizeOf110 rfl (v := .agg #[.bool (Lib.hasPrefix s [45]), .bool (Lib.hasPrefix ((cutAny [101, 69] (Lib.trimPrefix s [45])).2.1) [45]), .string (bs ([])), .string (bs ([])), .string (bs ([]))]) rfl rfl (by simp [one]) rfl (Nat.le_of_ble_eq_true rfl) rfl ?_
 clear hF; rintro w hF -
 replace hF : FR w0 [] [(b1, .cells #[.bool (Lib.hasPrefix s [45]), .bool (Lib.hasPrefix ((cutAny [101, 69] (Lib.trimPrefix s [45])).2.1) [45]), .string (bs ([])), .string (bs ([])), .string (bs ([]))] 110)] w := hF
 refine o_val (x_assign rfl) (o_nil (e_seq ?_))
 refine c_ret (e_ret (post_ret (res_ct rfl (l := [.bool (Lib.hasPrefix s [45]), .bool (Lib.hasPrefix ((cutAny [101, 69] (Lib.trimPrefix s [45])).2.1) [45]), .string (bs ([])), .string (bs ([])), .string (bs ([]))]) rfl Tryz.isAgg110 Tryz.sizeOf110 rfl (hF.cellsAll 0 rfl) (v := .bool false) rfl) ?_))
 refine ⟨?_, hF.same⟩
 simp_all [readN, readEnd, litV, head48]
 refine c_iff rfl (c_skip (e_seq (c_seq (c_region (o_val (x_move rfl) (o_val (v := .pointer (some ⟨b1, 4, none⟩)) (x_fieldAddrO fa_110_4 rfl) ?_))))))
 refine o_store 0 (l := [.string (bs (Lib.trimPrefix (Lib.trimPrefix ((cutAny [101, 69] (Lib.trimPrefix s [45])).2.1) [45]) [43]))]) (cs' := #[.bool (Lib.hasPrefix s [45]), .bool (Lib.hasPrefix ((cutAny [101, 69] (Lib.trimPrefix s [45])).2.1) [45]), .string (bs ([])), .string (bs ([])), .string (bs (Lib.trimPrefix (Lib.trimPrefix ((cutAny [101, 69] (Lib.trimPrefix s [45])).2.1) [45]) [43]))]) hF Tryz.sizeOf9 rfl (v := .string (bs (Lib.trimPrefix (Lib.trimPrefix ((cutAny [101, 69] (Lib.trimPrefix s [45])).2.1) [45]) [43]))) rfl rfl (by simp [one]) rfl (Nat.le_of_ble_eq_true rfl) rfl ?_
 clear hF; rintro w hF -
 replace hF : FR w0 [] [(b1, .cells #[.bool (Lib.hasPrefix s [45]), .bool (Lib.hasPrefix ((cutAny [101, 69] (Lib.trimPrefix s [45])).2.1) [45]), .string (bs ([])), .string (bs ([])), .string (bs (Lib.trimPrefix (Lib.trimPrefix ((cutAny [101, 69] (Lib.trimPrefix s [45])).2.1) [45]) [43]))] 110)] w := hF
 refine o_nil (e_seq (c_seq (c_region (o_val (x_move rfl) ?_))))
 refine o_call (cut_c ((cutAny [101, 69] (Lib.trimPrefix s [45])).1) [46] (by have := trimPrefix_len s [45]; have := cutAny_fst_len [101, 69] (Lib.trimPrefix s [45]); omega) _) (x_call2 en_101 rfl rfl rfl) ?_
 rintro _ w ⟨rfl, hE⟩
 replace hF := hF.ext hE
 clear hE
 refine o_val (x_move rfl) (o_val (x_extract rfl rfl) (o_val (x_extract rfl rfl) (o_val (x_extract rfl rfl) (o_val (x_assign rfl) (o_val (x_assign rfl) (o_val (x_assign rfl) (o_nil (e_seq (c_seq (c_region (o_val (x_move rfl) (o_val (x_move rfl) (o_val (v := .pointer (some ⟨b1, 2, none⟩)) (x_fieldAddrO fa_110_2 rfl) ?_)))))))))))))
 refine o_store 0 (l := [.string (bs ((cutAny [46] ((cutAny [101, 69] (Lib.trimPrefix s [45])).1)).1))]) (cs' := #[.bool (Lib.hasPrefix s [45]), .bool (Lib.hasPrefix ((cutAny [101, 69] (Lib.trimPrefix s [45])).2.1) [45]), .string (bs ((cutAny [46] ((cutAny [101, 69] (Lib.trimPrefix s [45])).1)).1)), .string (bs ([])), .string (bs (Lib.trimPrefix (Lib.trimPrefix ((cutAny [101, 69] (Lib.trimPrefix s [45])).2.1) [45]) [43]))]) hF Tryz.sizeOf9 rfl (v := .string (bs ((cutAny [46] ((cutAny [101, 69] (Lib.trimPrefix s [45])).1)).1))) rfl rfl (by simp [one]) rfl (Nat.le_of_ble_eq_true rfl) rfl ?_
 clear hF; rintro w hF -
 replace hF : FR w0 [] [(b1, .cells #[.bool (Lib.hasPrefix s [45]), .bool (Lib.hasPrefix ((cutAny [101, 69] (Lib.trimPrefix s [45])).2.1) [45]), .string (bs ((cutAny [46] ((cutAny [101, 69] (Lib.trimPrefix s [45])).1)).1)), .string (bs ([])), .string (bs (Lib.trimPrefix (Lib.trimPrefix ((cutAny [101, 69] (Lib.trimPrefix s [45])).2.1) [45]) [43]))] 110)] w := hF
 refine o_val (v := .pointer (some ⟨b1, 3, none⟩)) (x_fieldAddrO fa_110_3 rfl) ?_
 refine o_store 0 (l := [.string (bs ((cutAny [46] ((cutAny [101, 69] (Lib.trimPrefix s [45])).1)).2.1))]) (cs' := #[.bool (Lib.hasPrefix s [45]), .bool (Lib.hasPrefix ((cutAny [101, 69] (Lib.trimPrefix s [45])).2.1) [45]), .string (bs ((cutAny [46] ((cutAny [101, 69] (Lib.trimPrefix s [45])).1)).1)), .string (bs ((cutAny [46] ((cutAny [101, 69] (Lib.trimPrefix s [45])).1)).2.1)), .string (bs (Lib.trimPrefix (Lib.trimPrefix ((cutAny [101, 69] (Lib.trimPrefix s [45])).2.1) [45]) [43]))]) hF Tryz.sizeOf9 rfl (v := .string (bs ((cutAny [46] ((cutAny [101, 69] (Lib.trimPrefix s [45])).1)).2.1))) rfl rfl (by simp [one]) rfl (Nat.le_of_ble_eq_true rfl) rfl ?_
 clear hF; rintro w hF -
 replace hF : FR w0 [] [(b1, .cells #[.bool (Lib.hasPrefix s [45]), .bool (Lib.hasPrefix ((cutAny [101, 69] (Lib.trimPrefix s [45])).2.1) [45]), .string (bs ((cutAny [46] ((cutAny [101, 69] (Lib.trimPrefix s [45])).1)).1)), .string (bs ((cutAny [46] ((cutAny [101, 69] (Lib.trimPrefix s [45])).1)).2.1)), .string (bs (Lib.trimPrefix (Lib.trimPrefix ((cutAny [101, 69] (Lib.trimPrefix s [45])).2.1) [45]) [43]))] 110)] w := hF
 refine o_nil (e_seq (c_seq (c_seq (c_region (o_val (x_move rfl) ?_)))))
 refine o_call (digits_c ((cutAny [46] ((cutAny [101, 69] (Lib.trimPrefix s [45])).1)).1) _) (x_call1 en_81 rfl rfl) ?_
 rintro _ w ⟨rfl, hE⟩
 replace hF := hF.ext hE
 clear hE
 refine o_val (v := .bool (!(digs ((cutAny [46] ((cutAny [101, 69] (Lib.trimPrefix s [45])).1)).1)))) (x_not rfl) (o_val (x_move rfl) ?_)
 refine o_split (d := 52) (b := !(digs ((cutAny [46] ((cutAny [101, 69] (Lib.trimPrefix s [45])).1)).1))) rfl (fun hg0 => ?_) (fun hg0 => ?_)
 refine o_off (o_off (o_off (o_off (o_off (o_off (o_val (x_pickt rfl rfl) (o_nil (e_seq (c_ift rfl (c_seq (c_region (o_val (v := .agg #[.bool (Lib.hasPrefix s [45]), .bool (Lib.hasPrefix ((cutAny [101, 69] (Lib.trimPrefix s [45])).2.1) [45]), .string (bs ((cutAny [46] ((cutAny [101, 69] (Lib.trimPrefix s [45])).1)).1)), .string (bs ((cutAny [46] ((cutAny [101, 69] (Lib.trimPrefix s [45])).1)).2.1)), .string (bs (Lib.trimPrefix (Lib.trimPrefix ((cutAny [101, 69] (Lib.trimPrefix s [45])).2.1) [45]) [43]))]) (x_loadS (l := [.bool (Lib.hasPrefix s [45]), .bool (Lib.hasPrefix ((cutAny [101, 69] (Lib.trimPrefix s [45])).2.1) [45]), .string (bs ((cutAny [46] ((cutAny [101, 69] (Lib.trimPrefix s [45])).1)).1)), .string (bs ((cutAny [46] ((cutAny [101, 69] (Lib.trimPrefix s [45])).1)).2.1)), .string (bs (Lib.trimPrefix (Lib.trimPrefix ((cutAny [101, 69] (Lib.trimPrefix s [45])).2.1) [45]) [43]))]) Tryz.isAgg110 Tryz.sizeOf110 rfl rfl (hF.cellsAll 0 rfl)) ?_))))))))))))
 refine o_store 0 (l := [.bool (Lib.hasPrefix s [45]), .bool (Lib.hasPrefix ((cutAny [101, 69] (Lib.trimPrefix s [45])).2.1) [45]), .string (bs ((cutAny [46] ((cutAny [101, 69] (Lib.trimPrefix s [45])).1)).1)), .string (bs ((cutAny [46] ((cutAny [101, 69] (Lib.trimPrefix s [45])).1)).2.1)), .string (bs (Lib.trimPrefix (Lib.trimPrefix ((cutAny [101, 69] (Lib.trimPrefix s [45])).2.1) [45]) [43]))]) (cs' := #[.bool (Lib.hasPrefix s [45]), .bool (Lib.hasPrefix ((cutAny [101, 69] (Lib.trimPrefix s [45])).2.1) [45]), .string (bs ((cutAny [46] ((cutAny [101, 69] (Lib.trimPrefix s [45])).1)).1)), .string (bs ((cutAny [46] ((cutAny [101, 69] (Lib.trimPrefix s [45])).1)).2.1)), .string (bs (Lib.trimPrefix (Lib.trimPrefix ((cutAny [101, 69] (Lib.trimPrefix s [45])).2.1) [45]) [43]))]) hF Tryz.sizeOf110 rfl (v := .agg #[.bool (Lib.hasPrefix s [45]), .bool (Lib.hasPrefix ((cutAny [101, 69] (Lib.trimPrefix s [45])).2.1) [45]), .string (bs ((cutAny [46] ((cutAny [101, 69] (Lib.trimPrefix s [45])).1)).1)), .string (bs ((cutAny [46] ((cutAny [101, 69] (Lib.trimPrefix s [45])).1)).2.1)), .string (bs (Lib.trimPrefix (Lib.trimPrefix ((cutAny [101, 69] (Lib.trimPrefix s [45])).2.1) [45]) [43]))]) rfl rfl (by simp [one]) rfl (Nat.le_of_ble_eq_true rfl) rfl ?_
 clear hF; rintro w hF -
 replace hF : FR w0 [] [(b1, .cells #[.bool (Lib.hasPrefix s [45]), .bool (Lib.hasPrefix ((cutAny [101, 69] (Lib.trimPrefix s [45])).2.1) [45]), .string (bs ((cutAny [46] ((cutAny [101, 69] (Lib.trimPrefix s [45])).1)).1)), .string (bs ((cutAny [46] ((cutAny [101, 69] (Lib.trimPrefix s [45])).1)).2.1)), .string (bs (Lib.trimPrefix (Lib.trimPrefix ((cutAny [101, 69] (Lib.trimPrefix s [45])).2.1) [45]) [43]))] 110)] w := hF
 refine o_val (x_assign rfl) (o_nil (e_seq ?_))
 refine c_ret (e_ret (post_ret (res_ct rfl (l := [.bool (Lib.hasPrefix s [45]), .bool (Lib.hasPrefix ((cutAny [101, 69] (Lib.trimPrefix s [45])).2.1) [45]), .string (bs ((cutAny [46] ((cutAny [101, 69] (Lib.trimPrefix s [45])).1)).1)), .string (bs ((cutAny [46] ((cutAny [101, 69] (Lib.trimPrefix s [45])).1)).2.1)), .string (bs (Lib.trimPrefix (Lib.trimPrefix ((cutAny [101, 69] (Lib.trimPrefix s [45])).2.1) [45]) [43]))]) rfl Tryz.isAgg110 Tryz.sizeOf110 rfl (hF.cellsAll 0 rfl) (v := .bool false) rfl) ?_))
 refine ⟨?_, hF.same⟩
 simp_all [readN, readEnd, litV, head48]
 refine o_val (x_move rfl) (o_val (x_move rfl) ?_)
 refine o_split (d := 54) (b := (cutAny [46] ((cutAny [101, 69] (Lib.trimPrefix s [45])).1)).2.2) rfl (fun hg1 => ?_) (fun hg1 => ?_)
 refine o_val (x_move rfl) ?_
 refine o_call (digits_c ((cutAny [46] ((cutAny [101, 69] (Lib.trimPrefix s [45])).1)).2.1) _) (x_call1 en_81 rfl rfl) ?_
 rintro _ w ⟨rfl, hE⟩
 replace hF := hF.ext hE
 clear hE
 refine o_val (v := .bool (!(digs ((cutAny [46] ((cutAny [101, 69] (Lib.trimPrefix s [45])).1)).2.1)))) (x_not rfl) (o_val (x_pickt rfl rfl) (o_val (x_pickf rfl rfl) (o_nil (e_seq ?_))))
 refine c_split (d := 59) (b := !(digs ((cutAny [46] ((cutAny [101, 69] (Lib.trimPrefix s [45])).1)).2.1))) rfl (fun hc3 => ?_) (fun hc3 => ?_)
 refine c_ift rfl (c_seq (c_region (o_val (v := .agg #[.bool (Lib.hasPrefix s [45]), .bool (Lib.hasPrefix ((cutAny [101, 69] (Lib.trimPrefix s [45])).2.1) [45]), .string (bs ((cutAny [46] ((cutAny [101, 69] (Lib.trimPrefix s [45])).1)).1)), .string (bs ((cutAny [46] ((cutAny [101, 69] (Lib.trimPrefix s [45])).1)).2.1)), .string (bs (Lib.trimPrefix (Lib.trimPrefix ((cutAny [101, 69] (Lib.trimPrefix s [45])).2.1) [45]) [43]))]) (x_loadS (l := [.bool (Lib.hasPrefix s [45]), .bool (Lib.hasPrefix ((cutAny [101, 69] (Lib.trimPrefix s [45])).2.1) [45]), .string (bs ((cutAny [46] ((cutAny [101, 69] (Lib.trimPrefix s [45])).1)).1)), .string (bs ((cutAny [46] ((cutAny [101, 69] (Lib.trimPrefix s [45])).1)).2.1)), .string (bs (Lib.trimPrefix (Lib.trimPrefix ((cutAny [101, 69] (Lib.trimPrefix s [45])).2.1) [45]) [43]))]) Tryz.isAgg110 Tryz.sizeOf110 rfl rfl (hF.cellsAll 0 rfl)) ?_)))
 refine o_store 0 (l := [.bool (Lib.hasPrefix s [45]), .bool (Lib.hasPrefix ((cutAny [101, 69] (Lib.trimPrefix s [45])).2.1) [45]), .string (bs ((cutAny [46] ((cutAny [101, 69] (Lib.trimPrefix s [45])).1)).1)), .string (bs ((cutAny [46] ((cutAny [101, 69] (Lib.trimPrefix s [45])).1)).2.1)), .string (bs (Lib.trimPrefix (Lib.trimPrefix ((cutAny [101, 69] (Lib.trimPrefix s [45])).2.1) [45]) [43]))]) (cs' := #[.bool (Lib.hasPrefix s [45]), .bool (Lib.hasPrefix ((cutAny [101, 69] (Lib.trimPrefix s [45])).2.1) [45]), .string (bs ((cutAny [46] ((cutAny [101, 69] (Lib.trimPrefix s [45])).1)).1)), .string (bs ((cutAny [46] ((cutAny [101, 69] (Lib.trimPrefix s [45])).1)).2.1)), .string (bs (Lib.trimPrefix (Lib.trimPrefix ((cutAny [101, 69] (Lib.trimPrefix s [45])).2.1) [45]) [43]))]) hF Tryz.sizeOf110 rfl (v := .agg #[.bool (Lib.hasPrefix s [45]), .bool (Lib.hasPrefix ((cutAny [101, 69] (Lib.trimPrefix s [45])).2.1) [45]), .string (bs ((cutAny [46] ((cutAny [101, 69] (Lib.trimPrefix s [45])).1)).1)), .string (bs ((cutAny [46] ((cutAny [101, 69] (Lib.trimPrefix s [45])).1)).2.1)), .string (bs (Lib.trimPrefix (Lib.trimPrefix ((cutAny [101, 69] (Lib.trimPrefix s [45])).2.1) [45]) [43]))]) rfl rfl (by simp [one]) rfl (Nat.le_of_ble_eq_true rfl) rfl ?_
 clear hF; rintro w hF -
 replace hF : FR w0 [] [(b1, .cells #[.bool (Lib.hasPrefix s [45]), .bool (Lib.hasPrefix ((cutAny [101, 69] (Lib.trimPrefix s [45])).2.1) [45]), .string (bs ((cutAny [46] ((cutAny [101, 69] (Lib.trimPrefix s [45])).1)).1)), .string (bs ((cutAny [46] ((cutAny [101, 69] (Lib.trimPrefix s [45])).1)).2.1)), .string (bs (Lib.trimPrefix (Lib.trimPrefix ((cutAny [101, 69] (Lib.trimPrefix s [45])).2.1) [45]) [43]))] 110)] w := hF
 refine o_val (x_assign rfl) (o_nil (e_seq ?_))
 refine c_ret (e_ret (post_ret (res_ct rfl (l := [.bool (Lib.hasPrefix s [45]), .bool (Lib.hasPrefix ((cutAny [101, 69] (Lib.trimPrefix s [45])).2.1) [45]), .string (bs ((cutAny [46] ((cutAny [101, 69] (Lib.trimPrefix s [45])).1)).1)), .string (bs ((cutAny [46] ((cutAny [101, 69] (Lib.trimPrefix s [45])).1)).2.1)), .string (bs (Lib.trimPrefix (Lib.trimPrefix ((cutAny [101, 69] (Lib.trimPrefix s [45])).2.1) [45]) [43]))]) rfl Tryz.isAgg110 Tryz.sizeOf110 rfl (hF.cellsAll 0 rfl) (v := .bool false) rfl) ?_))
 refine ⟨?_, hF.same⟩
 simp_all [readN, readEnd, litV, head48]
 refine c_iff rfl (c_skip (e_seq (c_seq ?_)))
 refine c_drawF [] (.free 0 (.free 1 (.free 2 (.free 3 (.free 4 (.free 5 (.free 6 (.free 7 (.act 8 (.free 9 .nil)))))))))) (by kernel_rfl) hF (by kernel_rfl) (by kernel_rfl) ?_
 clear hF; rintro w hF -
 refine ⟨fun wq => FR w0 [] [(b1, .cells #[.bool (Lib.hasPrefix s [45]), .bool (Lib.hasPrefix ((cutAny [101, 69] (Lib.trimPrefix s [45])).2.1) [45]), .string (bs ((cutAny [46] ((cutAny [101, 69] (Lib.trimPrefix s [45])).1)).1)), .string (bs ((cutAny [46] ((cutAny [101, 69] (Lib.trimPrefix s [45])).1)).2.1)), .string (bs (Lib.trimPrefix (Lib.trimPrefix ((cutAny [101, 69] (Lib.trimPrefix s [45])).2.1) [45]) [43]))] 110)] wq, hF, ?_⟩
 refine f_free rfl (v := .agg #[.bool (Lib.hasPrefix s [45]), .bool (Lib.hasPrefix ((cutAny [101, 69] (Lib.trimPrefix s [45])).2.1) [45]), .string (bs ((cutAny [46] ((cutAny [101, 69] (Lib.trimPrefix s [45])).1)).1)), .string (bs ((cutAny [46] ((cutAny [101, 69] (Lib.trimPrefix s [45])).1)).2.1)), .string (bs (Lib.trimPrefix (Lib.trimPrefix ((cutAny [101, 69] (Lib.trimPrefix s [45])).2.1) [45]) [43]))]) (fun w hC => x_loadS (l := [.bool (Lib.hasPrefix s [45]), .bool (Lib.hasPrefix ((cutAny [101, 69] (Lib.trimPrefix s [45])).2.1) [45]), .string (bs ((cutAny [46] ((cutAny [101, 69] (Lib.trimPrefix s [45])).1)).1)), .string (bs ((cutAny [46] ((cutAny [101, 69] (Lib.trimPrefix s [45])).1)).2.1)), .string (bs (Lib.trimPrefix (Lib.trimPrefix ((cutAny [101, 69] (Lib.trimPrefix s [45])).2.1) [45]) [43]))]) Tryz.isAgg110 Tryz.sizeOf110 rfl rfl (hC.cellsAll 0 rfl)) (f_free rfl (v := .string (bs ((cutAny [46] ((cutAny [101, 69] (Lib.trimPrefix s [45])).1)).1))) (fun w hC => x_move rfl) (f_free rfl (v := .bool (decide (((cutAny [46] ((cutAny [101, 69] (Lib.trimPrefix s [45])).1)).1 : Str) = [48]))) (fun w hC => x_eqls rfl rfl) (f_free rfl (v := .bool (decide (((cutAny [46] ((cutAny [101, 69] (Lib.trimPrefix s [45])).1)).1 : Str) = [48]))) (fun w hC => x_move rfl) ?_)))
 refine d_splitd (d := 64) (p := ((cutAny [46] ((cutAny [101, 69] (Lib.trimPrefix s [45])).1)).1 : Str) = [48]) rfl (fun hg2 => ?_) (fun hg2 => ?_)
 refine f_off rfl ?_
 refine f_off rfl ?_
 refine f_off rfl ?_
 refine f_free rfl (v := .bool true) (fun w hC => x_pickt rfl rfl) ?_
 refine f_store rfl 0 (l := [.bool (Lib.hasPrefix s [45]), .bool (Lib.hasPrefix ((cutAny [101, 69] (Lib.trimPrefix s [45])).2.1) [45]), .string (bs ((cutAny [46] ((cutAny [101, 69] (Lib.trimPrefix s [45])).1)).1)), .string (bs ((cutAny [46] ((cutAny [101, 69] (Lib.trimPrefix s [45])).1)).2.1)), .string (bs (Lib.trimPrefix (Lib.trimPrefix ((cutAny [101, 69] (Lib.trimPrefix s [45])).2.1) [45]) [43]))]) (cs' := #[.bool (Lib.hasPrefix s [45]), .bool (Lib.hasPrefix ((cutAny [101, 69] (Lib.trimPrefix s [45])).2.1) [45]), .string (bs ((cutAny [46] ((cutAny [101, 69] (Lib.trimPrefix s [45])).1)).1)), .string (bs ((cutAny [46] ((cutAny [101, 69] (Lib.trimPrefix s [45])).1)).2.1)), .string (bs (Lib.trimPrefix (Lib.trimPrefix ((cutAny [101, 69] (Lib.trimPrefix s [45])).2.1) [45]) [43]))]) hF Tryz.sizeOf110 rfl (v := .agg #[.bool (Lib.hasPrefix s [45]), .bool (Lib.hasPrefix ((cutAny [101, 69] (Lib.trimPrefix s [45])).2.1) [45]), .string (bs ((cutAny [46] ((cutAny [101, 69] (Lib.trimPrefix s [45])).1)).1)), .string (bs ((cutAny [46] ((cutAny [101, 69] (Lib.trimPrefix s [45])).1)).2.1)), .string (bs (Lib.trimPrefix (Lib.trimPrefix ((cutAny [101, 69] (Lib.trimPrefix s [45])).2.1) [45]) [43]))]) rfl rfl (by simp [one]) rfl (Nat.le_of_ble_eq_true rfl) rfl ?_
 clear hF; rintro w hF -
 replace hF : FR w0 [] [(b1, .cells #[.bool (Lib.hasPrefix s [45]), .bool (Lib.hasPrefix ((cutAny [101, 69] (Lib.trimPrefix s [45])).2.1) [45]), .string (bs ((cutAny [46] ((cutAny [101, 69] (Lib.trimPrefix s [45])).1)).1)), .string (bs ((cutAny [46] ((cutAny [101, 69] (Lib.trimPrefix s [45])).1)).2.1)), .string (bs (Lib.trimPrefix (Lib.trimPrefix ((cutAny [101, 69] (Lib.trimPrefix s [45])).2.1) [45]) [43]))] 110)] w := hF
 refine ⟨hF, ?_⟩
 refine f_free rfl (v := .bool true) (fun w hC => x_assign rfl) (d_nil (e_seq ?_))
 refine c_ret (e_ret (post_ret (res_ct rfl (l := [.bool (Lib.hasPrefix s [45]), .bool (Lib.hasPrefix ((cutAny [101, 69] (Lib.trimPrefix s [45])).2.1) [45]), .string (bs ((cutAny [46] ((cutAny [101, 69] (Lib.trimPrefix s [45])).1)).1)), .string (bs ((cutAny [46] ((cutAny [101, 69] (Lib.trimPrefix s [45])).1)).2.1)), .string (bs (Lib.trimPrefix (Lib.trimPrefix ((cutAny [101, 69] (Lib.trimPrefix s [45])).2.1) [45]) [43]))]) rfl Tryz.isAgg110 Tryz.sizeOf110 rfl (hF.cellsAll 0 rfl) (v := .bool true) rfl) ?_))
 refine ⟨?_, hF.same⟩
 simp_all [readN, readEnd, litV, head48]
 refine f_free rfl (v := .string (bs ((cutAny [46] ((cutAny [101, 69] (Lib.trimPrefix s [45])).1)).1))) (fun w hC => x_move rfl) ?_
 have hpos := List.length_pos_iff.2 (digs_ne (s := (cutAny [46] (cutAny [101, 69] (Lib.trimPrefix s [45])).1).1) (by simp_all))
 refine f_free rfl (v := .int .u8 (((((cutAny [46] ((cutAny [101, 69] (Lib.trimPrefix s [45])).1)).1 : Str)[0]'(hpos)).toNat : Int))) (fun w hC => x_index (0) Tryz.underlying9 rfl rfl (hpos)) (f_free rfl (v := .bool (decide ((((((cutAny [46] ((cutAny [101, 69] (Lib.trimPrefix s [45])).1)).1 : Str)[0]'(hpos)).toNat : Int) : Int) ≠ (48 : Int)))) (fun w hC => x_neq rfl rfl) (f_free rfl (v := .bool (decide ((((((cutAny [46] ((cutAny [101, 69] (Lib.trimPrefix s [45])).1)).1 : Str)[0]'(hpos)).toNat : Int) : Int) ≠ (48 : Int)))) (fun w hC => x_pickf rfl rfl) ?_))
 refine f_store rfl 0 (l := [.bool (Lib.hasPrefix s [45]), .bool (Lib.hasPrefix ((cutAny [101, 69] (Lib.trimPrefix s [45])).2.1) [45]), .string (bs ((cutAny [46] ((cutAny [101, 69] (Lib.trimPrefix s [45])).1)).1)), .string (bs ((cutAny [46] ((cutAny [101, 69] (Lib.trimPrefix s [45])).1)).2.1)), .string (bs (Lib.trimPrefix (Lib.trimPrefix ((cutAny [101, 69] (Lib.trimPrefix s [45])).2.1) [45]) [43]))]) (cs' := #[.bool (Lib.hasPrefix s [45]), .bool (Lib.hasPrefix ((cutAny [101, 69] (Lib.trimPrefix s [45])).2.1) [45]), .string (bs ((cutAny [46] ((cutAny [101, 69] (Lib.trimPrefix s [45])).1)).1)), .string (bs ((cutAny [46] ((cutAny [101, 69] (Lib.trimPrefix s [45])).1)).2.1)), .string (bs (Lib.trimPrefix (Lib.trimPrefix ((cutAny [101, 69] (Lib.trimPrefix s [45])).2.1) [45]) [43]))]) hF Tryz.sizeOf110 rfl (v := .agg #[.bool (Lib.hasPrefix s [45]), .bool (Lib.hasPrefix ((cutAny [101, 69] (Lib.trimPrefix s [45])).2.1) [45]), .string (bs ((cutAny [46] ((cutAny [101, 69] (Lib.trimPrefix s [45])).1)).1)), .string (bs ((cutAny [46] ((cutAny [101, 69] (Lib.trimPrefix s [45])).1)).2.1)), .string (bs (Lib.trimPrefix (Lib.trimPrefix ((cutAny [101, 69] (Lib.trimPrefix s [45])).2.1) [45]) [43]))]) rfl rfl (by simp [one]) rfl (Nat.le_of_ble_eq_true rfl) rfl ?_
 clear hF; rintro w hF -
 replace hF : FR w0 [] [(b1, .cells #[.bool (Lib.hasPrefix s [45]), .bool (Lib.hasPrefix ((cutAny [101, 69] (Lib.trimPrefix s [45])).2.1) [45]), .string (bs ((cutAny [46] ((cutAny [101, 69] (Lib.trimPrefix s [45])).1)).1)), .string (bs ((cutAny [46] ((cutAny [101, 69] (Lib.trimPrefix s [45])).1)).2.1)), .string (bs (Lib.trimPrefix (Lib.trimPrefix ((cutAny [101, 69] (Lib.trimPrefix s [45])).2.1) [45]) [43]))] 110)] w := hF
 refine ⟨hF, ?_⟩
 refine f_free rfl (v := .bool (decide ((((((cutAny [46] ((cutAny [101, 69] (Lib.trimPrefix s [45])).1)).1 : Str)[0]'(hpos)).toNat : Int) : Int) ≠ (48 : Int)))) (fun w hC => x_assign rfl) (d_nil (e_seq ?_))
 refine c_ret (e_ret (post_ret (res_ct rfl (l := [.bool (Lib.hasPrefix s [45]), .bool (Lib.hasPrefix ((cutAny [101, 69] (Lib.trimPrefix s [45])).2.1) [45]), .string (bs ((cutAny [46] ((cutAny [101, 69] (Lib.trimPrefix s [45])).1)).1)), .string (bs ((cutAny [46] ((cutAny [101, 69] (Lib.trimPrefix s [45])).1)).2.1)), .string (bs (Lib.trimPrefix (Lib.trimPrefix ((cutAny [101, 69] (Lib.trimPrefix s [45])).2.1) [45]) [43]))]) rfl Tryz.isAgg110 Tryz.sizeOf110 rfl (hF.cellsAll 0 rfl) (v := .bool (decide ((((((cutAny [46] ((cutAny [101, 69] (Lib.trimPrefix s [45])).1)).1 : Str)[0]'(hpos)).toNat : Int) : Int) ≠ (48 : Int)))) rfl) ?_))
 refine ⟨?_, hF.same⟩
 simp_all [readN, readEnd, litV, head48]
 refine o_off (o_off (o_off (o_val (x_pickf rfl rfl) (o_val (x_pickf rfl rfl) (o_nil (e_seq (c_iff rfl (c_skip (e_seq (c_seq ?_))))))))))
 refine c_drawF [] (.free 0 (.free 1 (.free 2 (.free 3 (.free 4 (.free 5 (.free 6 (.free 7 (.act 8 (.free 9 .nil)))))))))) (by kernel_rfl) hF (by kernel_rfl) (by kernel_rfl) ?_
 clear hF; rintro w hF -
 refine ⟨fun wq => FR w0 [] [(b1, .cells #[.bool (Lib.hasPrefix s [45]), .bool (Lib.hasPrefix ((cutAny [101, 69] (Lib.trimPrefix s [45])).2.1) [45]), .string (bs ((cutAny [46] ((cutAny [101, 69] (Lib.trimPrefix s [45])).1)).1)), .string (bs ((cutAny [46] ((cutAny [101, 69] (Lib.trimPrefix s [45])).1)).2.1)), .string (bs (Lib.trimPrefix (Lib.trimPrefix ((cutAny [101, 69] (Lib.trimPrefix s [45])).2.1) [45]) [43]))] 110)] wq, hF, ?_⟩
 refine f_free rfl (v := .agg #[.bool (Lib.hasPrefix s [45]), .bool (Lib.hasPrefix ((cutAny [101, 69] (Lib.trimPrefix s [45])).2.1) [45]), .string (bs ((cutAny [46] ((cutAny [101, 69] (Lib.trimPrefix s [45])).1)).1)), .string (bs ((cutAny [46] ((cutAny [101, 69] (Lib.trimPrefix s [45])).1)).2.1)), .string (bs (Lib.trimPrefix (Lib.trimPrefix ((cutAny [101, 69] (Lib.trimPrefix s [45])).2.1) [45]) [43]))]) (fun w hC => x_loadS (l := [.bool (Lib.hasPrefix s [45]), .bool (Lib.hasPrefix ((cutAny [101, 69] (Lib.trimPrefix s [45])).2.1) [45]), .string (bs ((cutAny [46] ((cutAny [101, 69] (Lib.trimPrefix s [45])).1)).1)), .string (bs ((cutAny [46] ((cutAny [101, 69] (Lib.trimPrefix s [45])).1)).2.1)), .string (bs (Lib.trimPrefix (Lib.trimPrefix ((cutAny [101, 69] (Lib.trimPrefix s [45])).2.1) [45]) [43]))]) Tryz.isAgg110 Tryz.sizeOf110 rfl rfl (hC.cellsAll 0 rfl)) (f_free rfl (v := .string (bs ((cutAny [46] ((cutAny [101, 69] (Lib.trimPrefix s [45])).1)).1))) (fun w hC => x_move rfl) (f_free rfl (v := .bool (decide (((cutAny [46] ((cutAny [101, 69] (Lib.trimPrefix s [45])).1)).1 : Str) = [48]))) (fun w hC => x_eqls rfl rfl) (f_free rfl (v := .bool (decide (((cutAny [46] ((cutAny [101, 69] (Lib.trimPrefix s [45])).1)).1 : Str) = [48]))) (fun w hC => x_move rfl) ?_)))
 refine d_splitd (d := 64) (p := ((cutAny [46] ((cutAny [101, 69] (Lib.trimPrefix s [45])).1)).1 : Str) = [48]) rfl (fun hg3 => ?_) (fun hg3 => ?_)
 refine f_off rfl ?_
 refine f_off rfl ?_
 refine f_off rfl ?_
 refine f_free rfl (v := .bool true) (fun w hC => x_pickt rfl rfl) ?_
 refine f_store rfl 0 (l := [.bool (Lib.hasPrefix s [45]), .bool (Lib.hasPrefix ((cutAny [101, 69] (Lib.trimPrefix s [45])).2.1) [45]), .string (bs ((cutAny [46] ((cutAny [101, 69] (Lib.trimPrefix s [45])).1)).1)), .string (bs ((cutAny [46] ((cutAny [101, 69] (Lib.trimPrefix s [45])).1)).2.1)), .string (bs (Lib.trimPrefix (Lib.trimPrefix ((cutAny [101, 69] (Lib.trimPrefix s [45])).2.1) [45]) [43]))]) (cs' := #[.bool (Lib.hasPrefix s [45]), .bool (Lib.hasPrefix ((cutAny [101, 69] (Lib.trimPrefix s [45])).2.1) [45]), .string (bs ((cutAny [46] ((cutAny [101, 69] (Lib.trimPrefix s [45])).1)).1)), .string (bs ((cutAny [46] ((cutAny [101, 69] (Lib.trimPrefix s [45])).1)).2.1)), .string (bs (Lib.trimPrefix (Lib.trimPrefix ((cutAny [101, 69] (Lib.trimPrefix s [45])).2.1) [45]) [43]))]) hF Tryz.sizeOf110 rfl (v := .agg #[.bool (Lib.hasPrefix s [45]), .bool (Lib.hasPrefix ((cutAny [101, 69] (Lib.trimPrefix s [45])).2.1) [45]), .string (bs ((cutAny [46] ((cutAny [101, 69] (Lib.trimPrefix s [45])).1)).1)), .string (bs ((cutAny [46] ((cutAny [101, 69] (Lib.trimPrefix s [45])).1)).2.1)), .string (bs (Lib.trimPrefix (Lib.trimPrefix ((cutAny [101, 69] (Lib.trimPrefix s [45])).2.1) [45]) [43]))]) rfl rfl (by simp [one]) rfl (Nat.le_of_ble_eq_true rfl) rfl ?_
 clear hF; rintro w hF -
 replace hF : FR w0 [] [(b1, .cells #[.bool (Lib.hasPrefix s [45]), .bool (Lib.hasPrefix ((cutAny [101, 69] (Lib.trimPrefix s [45])).2.1) [45]), .string (bs ((cutAny [46] ((cutAny [101, 69] (Lib.trimPrefix s [45])).1)).1)), .string (bs ((cutAny [46] ((cutAny [101, 69] (Lib.trimPrefix s [45])).1)).2.1)), .string (bs (Lib.trimPrefix (Lib.trimPrefix ((cutAny [101, 69] (Lib.trimPrefix s [45])).2.1) [45]) [43]))] 110)] w := hF
 refine ⟨hF, ?_⟩
 refine f_free rfl (v := .bool true) (fun w hC => x_assign rfl) (d_nil (e_seq ?_))
 refine c_ret (e_ret (post_ret (res_ct rfl (l := [.bool (Lib.hasPrefix s [45]), .bool (Lib.hasPrefix ((cutAny [101, 69] (Lib.trimPrefix s [45])).2.1) [45]), .string (bs ((cutAny [46] ((cutAny [101, 69] (Lib.trimPrefix s [45])).1)).1)), .string (bs ((cutAny [46] ((cutAny [101, 69] (Lib.trimPrefix s [45])).1)).2.1)), .string (bs (Lib.trimPrefix (Lib.trimPrefix ((cutAny [101, 69] (Lib.trimPrefix s [45])).2.1) [45]) [43]))]) rfl Tryz.isAgg110 Tryz.sizeOf110 rfl (hF.cellsAll 0 rfl) (v := .bool true) rfl) ?_))
 refine ⟨?_, hF.same⟩
 simp_all [readN, readEnd, litV, head48]
 refine f_free rfl (v := .string (bs ((cutAny [46] ((cutAny [101, 69] (Lib.trimPrefix s [45])).1)).1))) (fun w hC => x_move rfl) ?_
 have hpos := List.length_pos_iff.2 (digs_ne (s := (cutAny [46] (cutAny [101, 69] (Lib.trimPrefix s [45])).1).1) (by simp_all))
 refine f_free rfl (v := .int .u8 (((((cutAny [46] ((cutAny [101, 69] (Lib.trimPrefix s [45])).1)).1 : Str)[0]'(hpos)).toNat : Int))) (fun w hC => x_index (0) Tryz.underlying9 rfl rfl (hpos)) (f_free rfl (v := .bool (decide ((((((cutAny [46] ((cutAny [101, 69] (Lib.trimPrefix s [45])).1)).1 : Str)[0]'(hpos)).toNat : Int) : Int) ≠ (48 : Int)))) (fun w hC => x_neq rfl rfl) (f_free rfl (v := .bool (decide ((((((cutAny [46] ((cutAny [101, 69] (Lib.trimPrefix s [45])).1)).1 : Str)[0]'(hpos)).toNat : Int) : Int) ≠ (48 : Int)))) (fun w hC => x_pickf rfl rfl) ?_))
 refine f_store rfl 0 (l := [.bool (Lib.hasPrefix s [45]), .bool (Lib.hasPrefix ((cutAny [101, 69] (Lib.trimPrefix s [45])).2.1) [45]), .string (bs ((cutAny [46] ((cutAny [101, 69] (Lib.trimPrefix s [45])).1)).1)), .string (bs ((cutAny [46] ((cutAny [101, 69] (Lib.trimPrefix s [45])).1)).2.1)), .string (bs (Lib.trimPrefix (Lib.trimPrefix ((cutAny [101, 69] (Lib.trimPrefix s [45])).2.1) [45]) [43]))]) (cs' := #[.bool (Lib.hasPrefix s [45]), .bool (Lib.hasPrefix ((cutAny [101, 69] (Lib.trimPrefix s [45])).2.1) [45]), .string (bs ((cutAny [46] ((cutAny [101, 69] (Lib.trimPrefix s [45])).1)).1)), .string (bs ((cutAny [46] ((cutAny [101, 69] (Lib.trimPrefix s [45])).1)).2.1)), .string (bs (Lib.trimPrefix (Lib.trimPrefix ((cutAny [101, 69] (Lib.trimPrefix s [45])).2.1) [45]) [43]))]) hF Tryz.sizeOf110 rfl (v := .agg #[.bool (Lib.hasPrefix s [45]), .bool (Lib.hasPrefix ((cutAny [101, 69] (Lib.trimPrefix s [45])).2.1) [45]), .string (bs ((cutAny [46] ((cutAny [101, 69] (Lib.trimPrefix s [45])).1)).1)), .string (bs ((cutAny [46] ((cutAny [101, 69] (Lib.trimPrefix s [45])).1)).2.1)), .string (bs (Lib.trimPrefix (Lib.trimPrefix ((cutAny [101, 69] (Lib.trimPrefix s [45])).2.1) [45]) [43]))]) rfl rfl (by simp [one]) rfl (Nat.le_of_ble_eq_true rfl) rfl ?_
 clear hF; rintro w hF -
 replace hF : FR w0 [] [(b1, .cells #[.bool (Lib.hasPrefix s [45]), .bool (Lib.hasPrefix ((cutAny [101, 69] (Lib.trimPrefix s [45])).2.1) [45]), .string (bs ((cutAny [46] ((cutAny [101, 69] (Lib.trimPrefix s [45])).1)).1)), .string (bs ((cutAny [46] ((cutAny [101, 69] (Lib.trimPrefix s [45])).1)).2.1)), .string (bs (Lib.trimPrefix (Lib.trimPrefix ((cutAny [101, 69] (Lib.trimPrefix s [45])).2.1) [45]) [43]))] 110)] w := hF
 refine ⟨hF, ?_⟩
 refine f_free rfl (v := .bool (decide ((((((cutAny [46] ((cutAny [101, 69] (Lib.trimPrefix s [45])).1)).1 : Str)[0]'(hpos)).toNat : Int) : Int) ≠ (48 : Int)))) (fun w hC => x_assign rfl) (d_nil (e_seq ?_))
 refine c_ret (e_ret (post_ret (res_ct rfl (l := [.bool (Lib.hasPrefix s [45]), .bool (Lib.hasPrefix ((cutAny [101, 69] (Lib.trimPrefix s [45])).2.1) [45]), .string (bs ((cutAny [46] ((cutAny [101, 69] (Lib.trimPrefix s [45])).1)).1)), .string (bs ((cutAny [46] ((cutAny [101, 69] (Lib.trimPrefix s [45])).1)).2.1)), .string (bs (Lib.trimPrefix (Lib.trimPrefix ((cutAny [101, 69] (Lib.trimPrefix s [45])).2.1) [45]) [43]))]) rfl Tryz.isAgg110 Tryz.sizeOf110 rfl (hF.cellsAll 0 rfl) (v := .bool (decide ((((((cutAny [46] ((cutAny [101, 69] (Lib.trimPrefix s [45])).1)).1 : Str)[0]'(hpos)).toNat : Int) : Int) ≠ (48 : Int)))) rfl) ?_))
 refine ⟨?_, hF.same⟩
 simp_all [readN, readEnd, litV, head48]
 refine c_iff rfl (c_skip (e_seq (c_seq (c_region (o_val (x_move rfl) ?_)))))
 refine o_call (digits_c (Lib.trimPrefix ((cutAny [101, 69] (Lib.trimPrefix s [45])).2.1) [45]) _) (x_call1 en_81 rfl rfl) ?_
 rintro _ w ⟨rfl, hE⟩
 replace hF := hF.ext hE
 clear hE
 refine o_val (v := .bool (!(digs (Lib.trimPrefix ((cutAny [101, 69] (Lib.trimPrefix s [45])).2.1) [45])))) (x_not rfl) (o_nil (e_seq ?_))
 refine c_split (d := 35) (b := !(digs (Lib.trimPrefix ((cutAny [101, 69] (Lib.trimPrefix s [45])).2.1) [45]))) rfl (fun hc2 => ?_) (fun hc2 => ?_)
 refine c_ift rfl (c_seq (c_region (o_val (v := .agg #[.bool (Lib.hasPrefix s [45]), .bool (Lib.hasPrefix ((cutAny [101, 69] (Lib.trimPrefix s [45])).2.1) [45]), .string (bs ([])), .string (bs ([])), .string (bs ([]))]) (x_loadS (l := [.bool (Lib.hasPrefix s [45]), .bool (Lib.hasPrefix ((cutAny [101, 69] (Lib.trimPrefix s [45])).2.1) [45]), .string (bs ([])), .string (bs ([])), .string (bs ([]))]) Tryz.isAgg110 Tryz.sizeOf110 rfl rfl (hF.cellsAll 0 rfl)) ?_)))
 refine o_store 0 (l := [.bool (Lib.hasPrefix s [45]), .bool (Lib.hasPrefix ((cutAny [101, 69] (Lib.trimPrefix s [45])).2.1) [45]), .string (bs ([])), .string (bs ([])), .string (bs ([]))]) (cs' := #[.bool (Lib.hasPrefix s [45]), .bool (Lib.hasPrefix ((cutAny [101, 69] (Lib.trimPrefix s [45])).2.1) [45]), .string (bs ([])), .string (bs ([])), .string (bs ([]))]) hF Tryz.sizeOf110 rfl (v := .agg #[.bool (Lib.hasPrefix s [45]), .bool (Lib.hasPrefix ((cutAny [101, 69] (Lib.trimPrefix s [45])).2.1) [45]), .string (bs ([])), .string (bs ([])), .string (bs ([]))]) rfl rfl (by simp [one]) rfl (Nat.le_of_ble_eq_true rfl) rfl ?_
 clear hF; rintro w hF -
 replace hF : FR w0 [] [(b1, .cells #[.bool (Lib.hasPrefix s [45]), .bool (Lib.hasPrefix ((cutAny [101, 69] (Lib.trimPrefix s [45])).2.1) [45]), .string (bs ([])), .string (bs ([])), .string (bs ([]))] 110)] w := hF
 refine o_val (x_assign rfl) (o_nil (e_seq ?_))
 refine c_ret (e_ret (post_ret (res_ct rfl (l := [.bool (Lib.hasPrefix s [45]), .bool (Lib.hasPrefix ((cutAny [101, 69] (Lib.trimPrefix s [45])).2.1) [45]), .string (bs ([])), .string (bs ([])), .string (bs ([]))]) rfl Tryz.isAgg110 Tryz.sizeOf110 rfl (hF.cellsAll 0 rfl) (v := .bool false) rfl) ?_))
 refine ⟨?_, hF.same⟩
 simp_all [readN, readEnd, litV, head48]
 refine c_iff rfl (c_skip (e_seq (c_seq (c_region (o_val (x_move rfl) (o_val (v := .pointer (some ⟨b1, 4, none⟩)) (x_fieldAddrO fa_110_4 rfl) ?_))))))
 refine o_store 0 (l := [.string (bs (Lib.trimPrefix ((cutAny [101, 69] (Lib.trimPrefix s [45])).2.1) [45]))]) (cs' := #[.bool (Lib.hasPrefix s [45]), .bool (Lib.hasPrefix ((cutAny [101, 69] (Lib.trimPrefix s [45])).2.1) [45]), .string (bs ([])), .string (bs ([])), .string (bs (Lib.trimPrefix ((cutAny [101, 69] (Lib.trimPrefix s [45])).2.1) [45]))]) hF Tryz.sizeOf9 rfl (v := .string (bs (Lib.trimPrefix ((cutAny [101, 69] (Lib.trimPrefix s [45])).2.1) [45]))) rfl rfl (by simp [one]) rfl (Nat.le_of_ble_eq_true rfl) rfl ?_
 clear hF; rintro w hF -
 replace hF : FR w0 [] [(b1, .cells #[.bool (Lib.hasPrefix s [45]), .bool (Lib.hasPrefix ((cutAny [101, 69] (Lib.trimPrefix s [45])).2.1) [45]), .string (bs ([])), .string (bs ([])), .string (bs (Lib.trimPrefix ((cutAny [101, 69] (Lib.trimPrefix s [45])).2.1) [45]))] 110)] w := hF
 refine o_nil (e_seq (c_seq (c_region (o_val (x_move rfl) ?_))))
 refine o_call (cut_c ((cutAny [101, 69] (Lib.trimPrefix s [45])).1) [46] (by have := trimPrefix_len s [45]; have := cutAny_fst_len [101, 69] (Lib.trimPrefix s [45]); omega) _) (x_call2 en_101 rfl rfl rfl) ?_
 rintro _ w ⟨rfl, hE⟩
 replace hF := hF.ext hE
 clear hE
 refine o_val (x_move rfl) (o_val (x_extract rfl rfl) (o_val (x_extract rfl rfl) (o_val (x_extract rfl rfl) (o_val (x_assign rfl) (o_val (x_assign rfl) (o_val (x_assign rfl) (o_nil (e_seq (c_seq (c_region (o_val (x_move rfl) (o_val (x_move rfl) (o_val (v := .pointer (some ⟨b1, 2, none⟩)) (x_fieldAddrO fa_110_2 rfl) ?_)))))))))))))
 refine o_store 0 (l := [.string (bs ((cutAny [46] ((cutAny [101, 69] (Lib.trimPrefix s [45])).1)).1))]) (cs' := #[.bool (Lib.hasPrefix s [45]), .bool (Lib.hasPrefix ((cutAny [101, 69] (Lib.trimPrefix s [45])).2.1) [45]), .string (bs ((cutAny [46] ((cutAny [101, 69] (Lib.trimPrefix s [45])).1)).1)), .string (bs ([])), .string (bs (Lib.trimPrefix ((cutAny [101, 69] (Lib.trimPrefix s [45])).2.1) [45]))]) hF Tryz.sizeOf9 rfl (v := .string (bs ((cutAny [46] ((cutAny [101, 69] (Lib.trimPrefix s [45])).1)).1))) rfl rfl (by simp [one]) rfl (Nat.le_of_ble_eq_true rfl) rfl ?_
 clear hF; rintro w hF -
 replace hF : FR w0 [] [(b1, .cells #[.bool (Lib.hasPrefix s [45]), .bool (Lib.hasPrefix ((cutAny [101, 69] (Lib.trimPrefix s [45])).2.1) [45]), .string (bs ((cutAny [46] ((cutAny [101, 69] (Lib.trimPrefix s [45])).1)).1)), .string (bs ([])), .string (bs (Lib.trimPrefix ((cutAny [101, 69] (Lib.trimPrefix s [45])).2.1) [45]))] 110)] w := hF
 refine o_val (v := .pointer (some ⟨b1, 3, none⟩)) (x_fieldAddrO fa_110_3 rfl) ?_
 refine o_store 0 (l := [.string (bs ((cutAny [46] ((cutAny [101, 69] (Lib.trimPrefix s [45])).1)).2.1))]) (cs' := #[.bool (Lib.hasPrefix s [45]), .bool (Lib.hasPrefix ((cutAny [101, 69] (Lib.trimPrefix s [45])).2.1) [45]), .string (bs ((cutAny [46] ((cutAny [101, 69] (Lib.trimPrefix s [45])).1)).1)), .string (bs ((cutAny [46] ((cutAny [101, 69] (Lib.trimPrefix s [45])).1)).2.1)), .string (bs (Lib.trimPrefix ((cutAny [101, 69] (Lib.trimPrefix s [45])).2.1) [45]))]) hF Tryz.sizeOf9 rfl (v := .string (bs ((cutAny [46] ((cutAny [101, 69] (Lib.trimPrefix s [45])).1)).2.1))) rfl rfl (by simp [one]) rfl (Nat.le_of_ble_eq_true rfl) rfl ?_
 clear hF; rintro w hF -
 replace hF : FR w0 [] [(b1, .cells #[.bool (Lib.hasPrefix s [45]), .bool (Lib.hasPrefix ((cutAny [101, 69] (Lib.trimPrefix s [45])).2.1) [45]), .string (bs ((cutAny [46] ((cutAny [101, 69] (Lib.trimPrefix s [45])).1)).1)), .string (bs ((cutAny [46] ((cutAny [101, 69] (Lib.trimPrefix s [45])).1)).2.1)), .string (bs (Lib.trimPrefix ((cutAny [101, 69] (Lib.trimPrefix s [45])).2.1) [45]))] 110)] w := hF
 refine o_nil (e_seq (c_seq (c_seq (c_region (o_val (x_move rfl) ?_)))))
 refine o_call (digits_c ((cutAny [46] ((cutAny [101, 69] (Lib.trimPrefix s [45])).1)).1) _) (x_call1 en_81 rfl rfl) ?_
 rintro _ w ⟨rfl, hE⟩
 replace hF := hF.ext hE
 clear hE
 refine o_val (v := .bool (!(digs ((cutAny [46] ((cutAny [101, 69] (Lib.trimPrefix s [45])).1)).1)))) (x_not rfl) (o_val (x_move rfl) ?_)
 refine o_split (d := 52) (b := !(digs ((cutAny [46] ((cutAny [101, 69] (Lib.trimPrefix s [45])).1)).1))) rfl (fun hg4 => ?_) (fun hg4 => ?_)
 refine o_off (o_off (o_off (o_off (o_off (o_off (o_val (x_pickt rfl rfl) (o_nil (e_seq (c_ift rfl (c_seq (c_region (o_val (v := .agg #[.bool (Lib.hasPrefix s [45]), .bool (Lib.hasPrefix ((cutAny [101, 69] (Lib.trimPrefix s [45])).2.1) [45]), .string (bs ((cutAny [46] ((cutAny [101, 69] (Lib.trimPrefix s [45])).1)).1)), .string (bs ((cutAny [46] ((cutAny [101, 69] (Lib.trimPrefix s [45])).1)).2.1)), .string (bs (Lib.trimPrefix ((cutAny [101, 69] (Lib.trimPrefix s [45])).2.1) [45]))]) (x_loadS (l := [.bool (Lib.hasPrefix s [45]), .bool (Lib.hasPrefix ((cutAny [101, 69] (Lib.trimPrefix s [45])).2.1) [45]), .string (bs ((cutAny [46] ((cutAny [101, 69] (Lib.trimPrefix s [45])).1)).1)), .string (bs ((cutAny [46] ((cutAny [101, 69] (Lib.trimPrefix s [45])).1)).2.1)), .string (bs (Lib.trimPrefix ((cutAny [101, 69] (Lib.trimPrefix s [45])).2.1) [45]))]) Tryz.isAgg110 Tryz.sizeOf110 rfl rfl (hF.cellsAll 0 rfl)) ?_))))))))))))
 refine o_store 0 (l := [.bool (Lib.hasPrefix s [45]), .bool (Lib.hasPrefix ((cutAny [101, 69] (Lib.trimPrefix s [45])).2.1) [45]), .string (bs ((cutAny [46] ((cutAny [101, 69] (Lib.trimPrefix s [45])).1)).1)), .string (bs ((cutAny [46] ((cutAny [101, 69] (Lib.trimPrefix s [45])).1)).2.1)), .string (bs (Lib.trimPrefix ((cutAny [101, 69] (Lib.trimPrefix s [45])).2.1) [45]))]) (cs' := #[.bool (Lib.hasPrefix s [45]), .bool (Lib.hasPrefix ((cutAny [101, 69] (Lib.trimPrefix s [45])).2.1) [45]), .string (bs ((cutAny [46] ((cutAny [101, 69] (Lib.trimPrefix s [45])).1)).1)), .string (bs ((cutAny [46] ((cutAny [101, 69] (Lib.trimPrefix s [45])).1)).2.1)), .string (bs (Lib.trimPrefix ((cutAny [101, 69] (Lib.trimPrefix s [45])).2.1) [45]))]) hF Tryz.sizeOf110 rfl (v := .agg #[.bool (Lib.hasPrefix s [45]), .bool (Lib.hasPrefix ((cutAny [101, 69] (Lib.trimPrefix s [45])).2.1) [45]), .string (bs ((cutAny [46] ((cutAny [101, 69] (Lib.trimPrefix s [45])).1)).1)), .string (bs ((cutAny [46] ((cutAny [101, 69] (Lib.trimPrefix s [45])).1)).2.1)), .string (bs (Lib.trimPrefix ((cutAny [101, 69] (Lib.trimPrefix s [45])).2.1) [45]))]) rfl rfl (by simp [one]) rfl (Nat.le_of_ble_eq_true rfl) rfl ?_
 clear hF; rintro w hF -
 replace hF : FR w0 [] [(b1, .cells #[.bool (Lib.hasPrefix s [45]), .bool (Lib.hasPrefix ((cutAny [101, 69] (Lib.trimPrefix s [45])).2.1) [45]), .string (bs ((cutAny [46] ((cutAny [101, 69] (Lib.trimPrefix s [45])).1)).1)), .string (bs ((cutAny [46] ((cutAny [101, 69] (Lib.trimPrefix s [45])).1)).2.1)), .string (bs (Lib.trimPrefix ((cutAny [101, 69] (Lib.trimPrefix s [45])).2.1) [45]))] 110)] w := hF
 refine o_val (x_assign rfl) (o_nil (e_seq ?_))
 refine c_ret (e_ret (post_ret (res_ct rfl (l := [.bool (Lib.hasPrefix s [45]), .bool (Lib.hasPrefix ((cutAny [101, 69] (Lib.trimPrefix s [45])).2.1) [45]), .string (bs ((cutAny [46] ((cutAny [101, 69] (Lib.trimPrefix s [45])).1)).1)), .string (bs ((cutAny [46] ((cutAny [101, 69] (Lib.trimPrefix s [45])).1)).2.1)), .string (bs (Lib.trimPrefix ((cutAny [101, 69] (Lib.trimPrefix s [45])).2.1) [45]))]) rfl Tryz.isAgg110 Tryz.sizeOf110 rfl (hF.cellsAll 0 rfl) (v := .bool false) rfl) ?_))
 refine ⟨?_, hF.same⟩
 simp_all [readN, readEnd, litV, head48]
 refine o_val (x_move rfl) (o_val (x_move rfl) ?_)
 refine o_split (d := 54) (b := (cutAny [46] ((cutAny [101, 69] (Lib.trimPrefix s [45])).1)).2.2) rfl (fun hg5 => ?_) (fun hg5 => ?_)
 refine o_val (x_move rfl) ?_
 refine o_call (digits_c ((cutAny [46] ((cutAny [101, 69] (Lib.trimPrefix s [45])).1)).2.1) _) (x_call1 en_81 rfl rfl) ?_
 rintro _ w ⟨rfl, hE⟩
 replace hF := hF.ext hE
 clear hE
 refine o_val (v := .bool (!(digs ((cutAny [46] ((cutAny [101, 69] (Lib.trimPrefix s [45])).1)).2.1)))) (x_not rfl) (o_val (x_pickt rfl rfl) (o_val (x_pickf rfl rfl) (o_nil (e_seq ?_))))
 refine c_split (d := 59) (b := !(digs ((cutAny [46] ((cutAny [101, 69] (Lib.trimPrefix s [45])).1)).2.1))) rfl (fun hc3 => ?_) (fun hc3 => ?_)
 refine c_ift rfl (c_seq (c_region (o_val (v := .agg #[.bool (Lib.hasPrefix s [45]), .bool (Lib.hasPrefix ((cutAny [101, 69] (Lib.trimPrefix s [45])).2.1) [45]), .string (bs ((cutAny [46] ((cutAny [101, 69] (Lib.trimPrefix s [45])).1)).1)), .string (bs ((cutAny [46] ((cutAny [101, 69] (Lib.trimPrefix s [45])).1)).2.1)), .string (bs (Lib.trimPrefix ((cutAny [101, 69] (Lib.trimPrefix s [45])).2.1) [45]))]) (x_loadS (l := [.bool (Lib.hasPrefix s [45]), .bool (Lib.hasPrefix ((cutAny [101, 69] (Lib.trimPrefix s [45])).2.1) [45]), .string (bs ((cutAny [46] ((cutAny [101, 69] (Lib.trimPrefix s [45])).1)).1)), .string (bs ((cutAny [46] ((cutAny [101, 69] (Lib.trimPrefix s [45])).1)).2.1)), .string (bs (Lib.trimPrefix ((cutAny [101, 69] (Lib.trimPrefix s [45])).2.1) [45]))]) Tryz.isAgg110 Tryz.sizeOf110 rfl rfl (hF.cellsAll 0 rfl)) ?_)))
 refine o_store 0 (l := [.bool (Lib.hasPrefix s [45]), .bool (Lib.hasPrefix ((cutAny [101, 69] (Lib.trimPrefix s [45])).2.1) [45]), .string (bs ((cutAny [46] ((cutAny [101, 69] (Lib.trimPrefix s [45])).1)).1)), .string (bs ((cutAny [46] ((cutAny [101, 69] (Lib.trimPrefix s [45])).1)).2.1)), .string (bs (Lib.trimPrefix ((cutAny [101, 69] (Lib.trimPrefix s [45])).2.1) [45]))]) (cs' := #[.bool (Lib.hasPrefix s [45]), .bool (Lib.hasPrefix ((cutAny [101, 69] (Lib.trimPrefix s [45])).2.1) [45]), .string (bs ((cutAny [46] ((cutAny [101, 69] (Lib.trimPrefix s [45])).1)).1)), .string (bs ((cutAny [46] ((cutAny [101, 69] (Lib.trimPrefix s [45])).1)).2.1)), .string (bs (Lib.trimPrefix ((cutAny [101, 69] (Lib.trimPrefix s [45])).2.1) [45]))]) hF Tryz.sizeOf110 rfl (v := .agg #[.bool (Lib.hasPrefix s [45]), .bool (Lib.hasPrefix ((cutAny [101, 69] (Lib.trimPrefix s [45])).2.1) [45]), .string (bs ((cutAny [46] ((cutAny [101, 69] (Lib.trimPrefix s [45])).1)).1)), .string (bs ((cutAny [46] ((cutAny [101, 69] (Lib.trimPrefix s [45])).1)).2.1)), .string (bs (Lib.trimPrefix ((cutAny [101, 69] (Lib.trimPrefix s [45])).2.1) [45]))]) rfl rfl (by simp [one]) rfl (Nat.le_of_ble_eq_true rfl) rfl ?_
 clear hF; rintro w hF -
 replace hF : FR w0 [] [(b1, .cells #[.bool (Lib.hasPrefix s [45]), .bool (Lib.hasPrefix ((cutAny [101, 69] (Lib.trimPrefix s [45])).2.1) [45]), .string (bs ((cutAny [46] ((cutAny [101, 69] (Lib.trimPrefix s [45])).1)).1)), .string (bs ((cutAny [46] ((cutAny [101, 69] (Lib.trimPrefix s [45])).1)).2.1)), .string (bs (Lib.trimPrefix ((cutAny [101, 69] (Lib.trimPrefix s [45])).2.1) [45]))] 110)] w := hF
 refine o_val (x_assign rfl) (o_nil (e_seq ?_))
 refine c_ret (e_ret (post_ret (res_ct rfl (l := [.bool (Lib.hasPrefix s [45]), .bool (Lib.hasPrefix ((cutAny [101, 69] (Lib.trimPrefix s [45])).2.1) [45]), .string (bs ((cutAny [46] ((cutAny [101, 69] (Lib.trimPrefix s [45])).1)).1)), .string (bs ((cutAny [46] ((cutAny [101, 69] (Lib.trimPrefix s [45])).1)).2.1)), .string (bs (Lib.trimPrefix ((cutAny [101, 69] (Lib.trimPrefix s [45])).2.1) [45]))]) rfl Tryz.isAgg110 Tryz.sizeOf110 rfl (hF.cellsAll 0 rfl) (v := .bool false) rfl) ?_))
 refine ⟨?_, hF.same⟩
 simp_all [readN, readEnd, litV, head48]
 refine c_iff rfl (c_skip (e_seq (c_seq ?_)))
 refine c_drawF [] (.free 0 (.free 1 (.free 2 (.free 3 (.free 4 (.free 5 (.free 6 (.free 7 (.act 8 (.free 9 .nil)))))))))) (by kernel_rfl) hF (by kernel_rfl) (by kernel_rfl) ?_
 clear hF; rintro w hF -
 refine ⟨fun wq => FR w0 [] [(b1, .cells #[.bool (Lib.hasPrefix s [45]), .bool (Lib.hasPrefix ((cutAny [101, 69] (Lib.trimPrefix s [45])).2.1) [45]), .string (bs ((cutAny [46] ((cutAny [101, 69] (Lib.trimPrefix s [45])).1)).1)), .string (bs ((cutAny [46] ((cutAny [101, 69] (Lib.trimPrefix s [45])).1)).2.1)), .string (bs (Lib.trimPrefix ((cutAny [101, 69] (Lib.trimPrefix s [45])).2.1) [45]))] 110)] wq, hF, ?_⟩
 refine f_free rfl (v := .agg #[.bool (Lib.hasPrefix s [45]), .bool (Lib.hasPrefix ((cutAny [101, 69] (Lib.trimPrefix s [45])).2.1) [45]), .string (bs ((cutAny [46] ((cutAny [101, 69] (Lib.trimPrefix s [45])).1)).1)), .string (bs ((cutAny [46] ((cutAny [101, 69] (Lib.trimPrefix s [45])).1)).2.1)), .string (bs (Lib.trimPrefix ((cutAny [101, 69] (Lib.trimPrefix s [45])).2.1) [45]))]) (fun w hC => x_loadS (l := [.bool (Lib.hasPrefix s [45]), .bool (Lib.hasPrefix ((cutAny [101, 69] (Lib.trimPrefix s [45])).2.1) [45]), .string (bs ((cutAny [46] ((cutAny [101, 69] (Lib.trimPrefix s [45])).1)).1)), .string (bs ((cutAny [46] ((cutAny [101, 69] (Lib.trimPrefix s [45])).1)).2.1)), .string (bs (Lib.trimPrefix ((cutAny [101, 69] (Lib.trimPrefix s [45])).2.1) [45]))]) Tryz.isAgg110 Tryz.sizeOf110 rfl rfl (hC.cellsAll 0 rfl)) (f_free rfl (v := .string (bs ((cutAny [46] ((cutAny [101, 69] (Lib.trimPrefix s [45])).1)).1))) (fun w hC => x_move rfl) (f_free rfl (v := .bool (decide (((cutAny [46] ((cutAny [101, 69] (Lib.trimPrefix s [45])).1)).1 : Str) = [48]))) (fun w hC => x_eqls rfl rfl) (f_free rfl (v := .bool (decide (((cutAny [46] ((cutAny [101, 69] (Lib.trimPrefix s [45])).1)).1 : Str) = [48]))) (fun w hC => x_move rfl) ?_)))
 refine d_splitd (d := 64) (p := ((cutAny [46] ((cutAny [101, 69] (Lib.trimPrefix s [45])).1)).1 : Str) = [48]) rfl (fun hg6 => ?_) (fun hg6 => ?_)
 refine f_off rfl ?_
 refine f_off rfl ?_
 refine f_off rfl ?_
 refine f_free rfl (v := .bool true) (fun w hC => x_pickt rfl rfl) ?_
 refine f_store rfl 0 (l := [.bool (Lib.hasPrefix s [45]), .bool (Lib.hasPrefix ((cutAny [101, 69] (Lib.trimPrefix s [45])).2.1) [45]), .string (bs ((cutAny [46] ((cutAny [101, 69] (Lib.trimPrefix s [45])).1)).1)), .string (bs ((cutAny [46] ((cutAny [101, 69] (Lib.trimPrefix s [45])).1)).2.1)), .string (bs (Lib.trimPrefix ((cutAny [101, 69] (Lib.trimPrefix s [45])).2.1) [45]))]) (cs' := #[.bool (Lib.hasPrefix s [45]), .bool (Lib.hasPrefix ((cutAny [101, 69] (Lib.trimPrefix s [45])).2.1) [45]), .string (bs ((cutAny [46] ((cutAny [101, 69] (Lib.trimPrefix s [45])).1)).1)), .string (bs ((cutAny [46] ((cutAny [101, 69] (Lib.trimPrefix s [45])).1)).2.1)), .string (bs (Lib.trimPrefix ((cutAny [101, 69] (Lib.trimPrefix s [45])).2.1) [45]))]) hF Tryz.sizeOf110 rfl (v := .agg #[.bool (Lib.hasPrefix s [45]), .bool (Lib.hasPrefix ((cutAny [101, 69] (Lib.trimPrefix s [45])).2.1) [45]), .string (bs ((cutAny [46] ((cutAny [101, 69] (Lib.trimPrefix s [45])).1)).1)), .string (bs ((cutAny [46] ((cutAny [101, 69] (Lib.trimPrefix s [45])).1)).2.1)), .string (bs (Lib.trimPrefix ((cutAny [101, 69] (Lib.trimPrefix s [45])).2.1) [45]))]) rfl rfl (by simp [one]) rfl (Nat.le_of_ble_eq_true rfl) rfl ?_
 clear hF; rintro w hF -
 replace hF : FR w0 [] [(b1, .cells #[.bool (Lib.hasPrefix s [45]), .bool (Lib.hasPrefix ((cutAny [101, 69] (Lib.trimPrefix s [45])).2.1) [45]), .string (bs ((cutAny [46] ((cutAny [101, 69] (Lib.trimPrefix s [45])).1)).1)), .string (bs ((cutAny [46] ((cutAny [101, 69] (Lib.trimPrefix s [45])).1)).2.1)), .string (bs (Lib.trimPrefix ((cutAny [101, 69] (Lib.trimPrefix s [45])).2.1) [45]))] 110)] w := hF
 refine ⟨hF, ?_⟩
 refine f_free rfl (v := .bool true) (fun w hC => x_assign rfl) (d_nil (e_seq ?_))
 refine c_ret (e_ret (post_ret (res_ct rfl (l := [.bool (Lib.hasPrefix s [45]), .bool (Lib.hasPrefix ((cutAny [101, 69] (Lib.trimPrefix s [45])).2.1) [45]), .string (bs ((cutAny [46] ((cutAny [101, 69] (Lib.trimPrefix s [45])).1)).1)), .string (bs ((cutAny [46] ((cutAny [101, 69] (Lib.trimPrefix s [45])).1)).2.1)), .string (bs (Lib.trimPrefix ((cutAny [101, 69] (Lib.trimPrefix s [45])).2.1) [45]))]) rfl Tryz.isAgg110 Tryz.sizeOf110 rfl (hF.cellsAll 0 rfl) (v := .bool true) rfl) ?_))
 refine ⟨?_, hF.same⟩
 simp_all [readN, readEnd, litV, head48]
 refine f_free rfl (v := .string (bs ((cutAny [46] ((cutAny [101, 69] (Lib.trimPrefix s [45])).1)).1))) (fun w hC => x_move rfl) ?_
 have hpos := List.length_pos_iff.2 (digs_ne (s := (cutAny [46] (cutAny [101, 69] (Lib.trimPrefix s [45])).1).1) (by simp_all))
 refine f_free rfl (v := .int .u8 (((((cutAny [46] ((cutAny [101, 69] (Lib.trimPrefix s [45])).1)).1 : Str)[0]'(hpos)).toNat : Int))) (fun w hC => x_index (0) Tryz.underlying9 rfl rfl (hpos)) (f_free rfl (v := .bool (decide ((((((cutAny [46] ((cutAny [101, 69] (Lib.trimPrefix s [45])).1)).1 : Str)[0]'(hpos)).toNat : Int) : Int) ≠ (48 : Int)))) (fun w hC => x_neq rfl rfl) (f_free rfl (v := .bool (decide ((((((cutAny [46] ((cutAny [101, 69] (Lib.trimPrefix s [45])).1)).1 : Str)[0]'(hpos)).toNat : Int) : Int) ≠ (48 : Int)))) (fun w hC => x_pickf rfl rfl) ?_))
 refine f_store rfl 0 (l := [.bool (Lib.hasPrefix s [45]), .bool (Lib.hasPrefix ((cutAny [101, 69] (Lib.trimPrefix s [45])).2.1) [45]), .string (bs ((cutAny [46] ((cutAny [101, 69] (Lib.trimPrefix s [45])).1)).1)), .string (bs ((cutAny [46] ((cutAny [101, 69] (Lib.trimPrefix s [45])).1)).2.1)), .string (bs (Lib.trimPrefix ((cutAny [101, 69] (Lib.trimPrefix s [45])).2.1) [45]))]) (cs' := #[.bool (Lib.hasPrefix s [45]), .bool (Lib.hasPrefix ((cutAny [101, 69] (Lib.trimPrefix s [45])).2.1) [45]), .string (bs ((cutAny [46] ((cutAny [101, 69] (Lib.trimPrefix s [45])).1)).1)), .string (bs ((cutAny [46] ((cutAny [101, 69] (Lib.trimPrefix s [45])).1)).2.1)), .string (bs (Lib.trimPrefix ((cutAny [101, 69] (Lib.trimPrefix s [45])).2.1) [45]))]) hF Tryz.sizeOf110 rfl (v := .agg #[.bool (Lib.hasPrefix s [45]), .bool (Lib.hasPrefix ((cutAny [101, 69] (Lib.trimPrefix s [45])).2.1) [45]), .string (bs ((cutAny [46] ((cutAny [101, 69] (Lib.trimPrefix s [45])).1)).1)), .string (bs ((cutAny [46] ((cutAny [101, 69] (Lib.trimPrefix s [45])).1)).2.1)), .string (bs (Lib.trimPrefix ((cutAny [101, 69] (Lib.trimPrefix s [45])).2.1) [45]))]) rfl rfl (by simp [one]) rfl (Nat.le_of_ble_eq_true rfl) rfl ?_
 clear hF; rintro w hF -
 replace hF : FR w0 [] [(b1, .cells #[.bool (Lib.hasPrefix s [45]), .bool (Lib.hasPrefix ((cutAny [101, 69] (Lib.trimPrefix s [45])).2.1) [45]), .string (bs ((cutAny [46] ((cutAny [101, 69] (Lib.trimPrefix s [45])).1)).1)), .string (bs ((cutAny [46] ((cutAny [101, 69] (Lib.trimPrefix s [45])).1)).2.1)), .string (bs (Lib.trimPrefix ((cutAny [101, 69] (Lib.trimPrefix s [45])).2.1) [45]))] 110)] w := hF
 refine ⟨hF, ?_⟩
 refine f_free rfl (v := .bool (decide ((((((cutAny [46] ((cutAny [101, 69] (Lib.trimPrefix s [45])).1)).1 : Str)[0]'(hpos)).toNat : Int) : Int) ≠ (48 : Int)))) (fun w hC => x_assign rfl) (d_nil (e_seq ?_))
 refine c_ret (e_ret (post_ret (res_ct rfl (l := [.bool (Lib.hasPrefix s [45]), .bool (Lib.hasPrefix ((cutAny [101, 69] (Lib.trimPrefix s [45])).2.1) [45]), .string (bs ((cutAny [46] ((cutAny [101, 69] (Lib.trimPrefix s [45])).1)).1)), .string (bs ((cutAny [46] ((cutAny [101, 69] (Lib.trimPrefix s [45])).1)).2.1)), .string (bs (Lib.trimPrefix ((cutAny [101, 69] (Lib.trimPrefix s [45])).2.1) [45]))]) rfl Tryz.isAgg110 Tryz.sizeOf110 rfl (hF.cellsAll 0 rfl) (v := .bool (decide ((((((cutAny [46] ((cutAny [101, 69] (Lib.trimPrefix s [45])).1)).1 : Str)[0]'(hpos)).toNat : Int) : Int) ≠ (48 : Int)))) rfl) ?_))
 refine ⟨?_, hF.same⟩
 simp_all [readN, readEnd, litV, head48]
 refine o_off (o_off (o_off (o_val (x_pickf rfl rfl) (o_val (x_pickf rfl rfl) (o_nil (e_seq (c_iff rfl (c_skip (e_seq (c_seq ?_))))))))))
 refine c_drawF [] (.free 0 (.free 1 (.free 2 (.free 3 (.free 4 (.free 5 (.free 6 (.free 7 (.act 8 (.free 9 .nil)))))))))) (by kernel_rfl) hF (by kernel_rfl) (by kernel_rfl) ?_
 clear hF; rintro w hF -
 refine ⟨fun wq => FR w0 [] [(b1, .cells #[.bool (Lib.hasPrefix s [45]), .bool (Lib.hasPrefix ((cutAny [101, 69] (Lib.trimPrefix s [45])).2.1) [45]), .string (bs ((cutAny [46] ((cutAny [101, 69] (Lib.trimPrefix s [45])).1)).1)), .string (bs ((cutAny [46] ((cutAny [101, 69] (Lib.trimPrefix s [45])).1)).2.1)), .string (bs (Lib.trimPrefix ((cutAny [101, 69] (Lib.trimPrefix s [45])).2.1) [45]))] 110)] wq, hF, ?_⟩
 refine f_free rfl (v := .agg #[.bool (Lib.hasPrefix s [45]), .bool (Lib.hasPrefix ((cutAny [101, 69] (Lib.trimPrefix s [45])).2.1) [45]), .string (bs ((cutAny [46] ((cutAny [101, 69] (Lib.trimPrefix s [45])).1)).1)), .string (bs ((cutAny [46] ((cutAny [101, 69] (Lib.trimPrefix s [45])).1)).2.1)), .string (bs (Lib.trimPrefix ((cutAny [101, 69] (Lib.trimPrefix s [45])).2.1) [45]))]) (fun w hC => x_loadS (l := [.bool (Lib.hasPrefix s [45]), .bool (Lib.hasPrefix ((cutAny [101, 69] (Lib.trimPrefix s [45])).2.1) [45]), .string (bs ((cutAny [46] ((cutAny [101, 69] (Lib.trimPrefix s [45])).1)).1)), .string (bs ((cutAny [46] ((cutAny [101, 69] (Lib.trimPrefix s [45])).1)).2.1)), .string (bs (Lib.trimPrefix ((cutAny [101, 69] (Lib.trimPrefix s [45])).2.1) [45]))]) Tryz.isAgg110 Tryz.sizeOf110 rfl rfl (hC.cellsAll 0 rfl)) (f_free rfl (v := .string (bs ((cutAny [46] ((cutAny [101, 69] (Lib.trimPrefix s [45])).1)).1))) (fun w hC => x_move rfl) (f_free rfl (v := .bool (decide (((cutAny [46] ((cutAny [101, 69] (Lib.trimPrefix s [45])).1)).1 : Str) = [48]))) (fun w hC => x_eqls rfl rfl) (f_free rfl (v := .bool (decide (((cutAny [46] ((cutAny [101, 69] (Lib.trimPrefix s [45])).1)).1 : Str) = [48]))) (fun w hC => x_move rfl) ?_)))
 refine d_splitd (d := 64) (p := ((cutAny [46] ((cutAny [101, 69] (Lib.trimPrefix s [45])).1)).1 : Str) = [48]) rfl (fun hg7 => ?_) (fun hg7 => ?_)
 refine f_off rfl ?_
 refine f_off rfl ?_
 refine f_off rfl ?_
 refine f_free rfl (v := .bool true) (fun w hC => x_pickt rfl rfl) ?_
 refine f_store rfl 0 (l := [.bool (Lib.hasPrefix s [45]), .bool (Lib.hasPrefix ((cutAny [101, 69] (Lib.trimPrefix s [45])).2.1) [45]), .string (bs ((cutAny [46] ((cutAny [101, 69] (Lib.trimPrefix s [45])).1)).1)), .string (bs ((cutAny [46] ((cutAny [101, 69] (Lib.trimPrefix s [45])).1)).2.1)), .string (bs (Lib.trimPrefix ((cutAny [101, 69] (Lib.trimPrefix s [45])).2.1) [45]))]) (cs' := #[.bool (Lib.hasPrefix s [45]), .bool (Lib.hasPrefix ((cutAny [101, 69] (Lib.trimPrefix s [45])).2.1) [45]), .string (bs ((cutAny [46] ((cutAny [101, 69] (Lib.trimPrefix s [45])).1)).1)), .string (bs ((cutAny [46] ((cutAny [101, 69] (Lib.trimPrefix s [45])).1)).2.1)), .string (bs (Lib.trimPrefix ((cutAny [101, 69] (Lib.trimPrefix s [45])).2.1) [45]))]) hF Tryz.sizeOf110 rfl (v := .agg #[.bool (Lib.hasPrefix s [45]), .bool (Lib.hasPrefix ((cutAny [101, 69] (Lib.trimPrefix s [45])).2.1) [45]), .string (bs ((cutAny [46] ((cutAny [101, 69] (Lib.trimPrefix s [45])).1)).1)), .string (bs ((cutAny [46] ((cutAny [101, 69] (Lib.trimPrefix s [45])).1)).2.1)), .string (bs (Lib.trimPrefix ((cutAny [101, 69] (Lib.trimPrefix s [45])).2.1) [45]))]) rfl rfl (by simp [one]) rfl (Nat.le_of_ble_eq_true rfl) rfl ?_
 clear hF; rintro w hF -
 replace hF : FR w0 [] [(b1, .cells #[.bool (Lib.hasPrefix s [45]), .bool (Lib.hasPrefix ((cutAny [101, 69] (Lib.trimPrefix s [45])).2.1) [45]), .string (bs ((cutAny [46] ((cutAny [101, 69] (Lib.trimPrefix s [45])).1)).1)), .string (bs ((cutAny [46] ((cutAny [101, 69] (Lib.trimPrefix s [45])).1)).2.1)), .string (bs (Lib.trimPrefix ((cutAny [101, 69] (Lib.trimPrefix s [45])).2.1) [45]))] 110)] w := hF
 refine ⟨hF, ?_⟩
 refine f_free rfl (v := .bool true) (fun w hC => x_assign rfl) (d_nil (e_seq ?_))
 refine c_ret (e_ret (post_ret (res_ct rfl (l := [.bool (Lib.hasPrefix s [45]), .bool (Lib.hasPrefix ((cutAny [101, 69] (Lib.trimPrefix s [45])).2.1) [45]), .string (bs ((cutAny [46] ((cutAny [101, 69] (Lib.trimPrefix s [45])).1)).1)), .string (bs ((cutAny [46] ((cutAny [101, 69] (Lib.trimPrefix s [45])).1)).2.1)), .string (bs (Lib.trimPrefix ((cutAny [101, 69] (Lib.trimPrefix s [45])).2.1) [45]))]) rfl Tryz.isAgg110 Tryz.sizeOf110 rfl (hF.cellsAll 0 rfl) (v := .bool true) rfl) ?_))
 refine ⟨?_, hF.same⟩
 simp_all [readN, readEnd, litV, head48]
 refine f_free rfl (v := .string (bs ((cutAny [46] ((cutAny [101, 69] (Lib.trimPrefix s [45])).1)).1))) (fun w hC => x_move rfl) ?_
 have hpos := List.length_pos_iff.2 (digs_ne (s := (cutAny [46] (cutAny [101, 69] (Lib.trimPrefix s [45])).1).1) (by simp_all))
 refine f_free rfl (v := .int .u8 (((((cutAny [46] ((cutAny [101, 69] (Lib.trimPrefix s [45])).1)).1 : Str)[0]'(hpos)).toNat : Int))) (fun w hC => x_index (0) Tryz.underlying9 rfl rfl (hpos)) (f_free rfl (v := .bool (decide ((((((cutAny [46] ((cutAny [101, 69] (Lib.trimPrefix s [45])).1)).1 : Str)[0]'(hpos)).toNat : Int) : Int) ≠ (48 : Int)))) (fun w hC => x_neq rfl rfl) (f_free rfl (v := .bool (decide ((((((cutAny [46] ((cutAny [101, 69] (Lib.trimPrefix s [45])).1)).1 : Str)[0]'(hpos)).toNat : Int) : Int) ≠ (48 : Int)))) (fun w hC => x_pickf rfl rfl) ?_))
 refine f_store rfl 0 (l := [.bool (Lib.hasPrefix s [45]), .bool (Lib.hasPrefix ((cutAny [101, 69] (Lib.trimPrefix s [45])).2.1) [45]), .string (bs ((cutAny [46] ((cutAny [101, 69] (Lib.trimPrefix s [45])).1)).1)), .string (bs ((cutAny [46] ((cutAny [101, 69] (Lib.trimPrefix s [45])).1)).2.1)), .string (bs (Lib.trimPrefix ((cutAny [101, 69] (Lib.trimPrefix s [45])).2.1) [45]))]) (cs' := #[.bool (Lib.hasPrefix s [45]), .bool (Lib.hasPrefix ((cutAny [101, 69] (Lib.trimPrefix s [45])).2.1) [45]), .string (bs ((cutAny [46] ((cutAny [101, 69] (Lib.trimPrefix s [45])).1)).1)), .string (bs ((cutAny [46] ((cutAny [101, 69] (Lib.trimPrefix s [45])).1)).2.1)), .string (bs (Lib.trimPrefix ((cutAny [101, 69] (Lib.trimPrefix s [45])).2.1) [45]))]) hF Tryz.sizeOf110 rfl (v := .agg #[.bool (Lib.hasPrefix s [45]), .bool (Lib.hasPrefix ((cutAny [101, 69] (Lib.trimPrefix s [45])).2.1) [45]), .string (bs ((cutAny [46] ((cutAny [101, 69] (Lib.trimPrefix s [45])).1)).1)), .string (bs ((cutAny [46] ((cutAny [101, 69] (Lib.trimPrefix s [45])).1)).2.1)), .string (bs (Lib.trimPrefix ((cutAny [101, 69] (Lib.trimPrefix s [45])).2.1) [45]))]) rfl rfl (by simp [one]) rfl (Nat.le_of_ble_eq_true rfl) rfl ?_
 clear hF; rintro w hF -
 replace hF : FR w0 [] [(b1, .cells #[.bool (Lib.hasPrefix s [45]), .bool (Lib.hasPrefix ((cutAny [101, 69] (Lib.trimPrefix s [45])).2.1) [45]), .string (bs ((cutAny [46] ((cutAny [101, 69] (Lib.trimPrefix s [45])).1)).1)), .string (bs ((cutAny [46] ((cutAny [101, 69] (Lib.trimPrefix s [45])).1)).2.1)), .string (bs (Lib.trimPrefix ((cutAny [101, 69] (Lib.trimPrefix s [45])).2.1) [45]))] 110)] w := hF
 refine ⟨hF, ?_⟩
 refine f_free rfl (v := .bool (decide ((((((cutAny [46] ((cutAny [101, 69] (Lib.trimPrefix s [45])).1)).1 : Str)[0]'(hpos)).toNat : Int) : Int) ≠ (48 : Int)))) (fun w hC => x_assign rfl) (d_nil (e_seq ?_))
 refine c_ret (e_ret (post_ret (res_ct rfl (l := [.bool (Lib.hasPrefix s [45]), .bool (Lib.hasPrefix ((cutAny [101, 69] (Lib.trimPrefix s [45])).2.1) [45]), .string (bs ((cutAny [46] ((cutAny [101, 69] (Lib.trimPrefix s [45])).1)).1)), .string (bs ((cutAny [46] ((cutAny [101, 69] (Lib.trimPrefix s [45])).1)).2.1)), .string (bs (Lib.trimPrefix ((cutAny [101, 69] (Lib.trimPrefix s [45])).2.1) [45]))]) rfl Tryz.isAgg110 Tryz.sizeOf110 rfl (hF.cellsAll 0 rfl) (v := .bool (decide ((((((cutAny [46] ((cutAny [101, 69] (Lib.trimPrefix s [45])).1)).1 : Str)[0]'(hpos)).toNat : Int) : Int) ≠ (48 : Int)))) rfl) ?_))
 refine ⟨?_, hF.same⟩
 simp_all [readN, readEnd, litV, head48]
 refine c_iff rfl (c_skip (e_seq (c_seq (c_region (o_val (x_move rfl) (o_val (v := .pointer (some ⟨b1, 4, none⟩)) (x_fieldAddrO fa_110_4 rfl) ?_))))))
 refine o_store 0 (l := [.string (bs ((cutAny [101, 69] (Lib.trimPrefix s [45])).2.1))]) (cs' := #[.bool (Lib.hasPrefix s [45]), .bool false, .string (bs ([])), .string (bs ([])), .string (bs ((cutAny [101, 69] (Lib.trimPrefix s [45])).2.1))]) hF Tryz.sizeOf9 rfl (v := .string (bs ((cutAny [101, 69] (Lib.trimPrefix s [45])).2.1))) rfl rfl (by simp [one]) rfl (Nat.le_of_ble_eq_true rfl) rfl ?_
 clear hF; rintro w hF -
 replace hF : FR w0 [] [(b1, .cells #[.bool (Lib.hasPrefix s [45]), .bool false, .string (bs ([])), .string (bs ([])), .string (bs ((cutAny [101, 69] (Lib.trimPrefix s [45])).2.1))] 110)] w := hF
 refine o_nil (e_seq (c_seq (c_region (o_val (x_move rfl) ?_))))
 refine o_call (cut_c ((cutAny [101, 69] (Lib.trimPrefix s [45])).1) [46] (by have := trimPrefix_len s [45]; have := cutAny_fst_len [101, 69] (Lib.trimPrefix s [45]); omega) _) (x_call2 en_101 rfl rfl rfl) ?_
 rintro _ w ⟨rfl, hE⟩
 replace hF := hF.ext hE
 clear hE
 refine o_val (x_move rfl) (o_val (x_extract rfl rfl) (o_val (x_extract rfl rfl) (o_val (x_extract rfl rfl) (o_val (x_assign rfl) (o_val (x_assign rfl) (o_val (x_assign rfl) (o_nil (e_seq (c_seq (c_region (o_val (x_move rfl) (o_val (x_move rfl) (o_val (v := .pointer (some ⟨b1, 2, none⟩)) (x_fieldAddrO fa_110_2 rfl) ?_)))))))))))))
 refine o_store 0 (l := [.string (bs ((cutAny [46] ((cutAny [101, 69] (Lib.trimPrefix s [45])).1)).1))]) (cs' := #[.bool (Lib.hasPrefix s [45]), .bool false, .string (bs ((cutAny [46] ((cutAny [101, 69] (Lib.trimPrefix s [45])).1)).1)), .string (bs ([])), .string (bs ((cutAny [101, 69] (Lib.trimPrefix s [45])).2.1))]) hF Tryz.sizeOf9 rfl (v := .string (bs ((cutAny [46] ((cutAny [101, 69] (Lib.trimPrefix s [45])).1)).1))) rfl rfl (by simp [one]) rfl (Nat.le_of_ble_eq_true rfl) rfl ?_
 clear hF; rintro w hF -
 replace hF : FR w0 [] [(b1, .cells #[.bool (Lib.hasPrefix s [45]), .bool false, .string (bs ((cutAny [46] ((cutAny [101, 69] (Lib.trimPrefix s [45])).1)).1)), .string (bs ([])), .string (bs ((cutAny [101, 69] (Lib.trimPrefix s [45])).2.1))] 110)] w := hF
 refine o_val (v := .pointer (some ⟨b1, 3, none⟩)) (x_fieldAddrO fa_110_3 rfl) ?_
 refine o_store 0 (l := [.string (bs ((cutAny [46] ((cutAny [101, 69] (Lib.trimPrefix s [45])).1)).2.1))]) (cs' := #[.bool (Lib.hasPrefix s [45]), .bool false, .string (bs ((cutAny [46] ((cutAny [101, 69] (Lib.trimPrefix s [45])).1)).1)), .string (bs ((cutAny [46] ((cutAny [101, 69] (Lib.trimPrefix s [45])).1)).2.1)), .string (bs ((cutAny [101, 69] (Lib.trimPrefix s [45])).2.1))]) hF Tryz.sizeOf9 rfl (v := .string (bs ((cutAny [46] ((cutAny [101, 69] (Lib.trimPrefix s [45])).1)).2.1))) rfl rfl (by simp [one]) rfl (Nat.le_of_ble_eq_true rfl) rfl ?_
 clear hF; rintro w hF -
 replace hF : FR w0 [] [(b1, .cells #[.bool (Lib.hasPrefix s [45]), .bool false, .string (bs ((cutAny [46] ((cutAny [101, 69] (Lib.trimPrefix s [45])).1)).1)), .string (bs ((cutAny [46] ((cutAny [101, 69] (Lib.trimPrefix s [45])).1)).2.1)), .string (bs ((cutAny [101, 69] (Lib.trimPrefix s [45])).2.1))] 110)] w := hF
 refine o_nil (e_seq (c_seq (c_seq (c_region (o_val (x_move rfl) ?_)))))
 refine o_call (digits_c ((cutAny [46] ((cutAny [101, 69] (Lib.trimPrefix s [45])).1)).1) _) (x_call1 en_81 rfl rfl) ?_
 rintro _ w ⟨rfl, hE⟩
 replace hF := hF.ext hE
 clear hE
 refine o_val (v := .bool (!(digs ((cutAny [46] ((cutAny [101, 69] (Lib.trimPrefix s [45])).1)).1)))) (x_not rfl) (o_val (x_move rfl) ?_)
 refine o_split (d := 52) (b := !(digs ((cutAny [46] ((cutAny [101, 69] (Lib.trimPrefix s [45])).1)).1))) rfl (fun hg8 => ?_) (fun hg8 => ?_)
 refine o_off (o_off (o_off (o_off (o_off (o_off (o_val (x_pickt rfl rfl) (o_nil (e_seq (c_ift rfl (c_seq (c_region (o_val (v := .agg #[.bool (Lib.hasPrefix s [45]), .bool false, .string (bs ((cutAny [46] ((cutAny [101, 69] (Lib.trimPrefix s [45])).1)).1)), .string (bs ((cutAny [46] ((cutAny [101, 69] (Lib.trimPrefix s [45])).1)).2.1)), .string (bs ((cutAny [101, 69] (Lib.trimPrefix s [45])).2.1))]) (x_loadS (l := [.bool (Lib.hasPrefix s [45]), .bool false, .string (bs ((cutAny [46] ((cutAny [101, 69] (Lib.trimPrefix s [45])).1)).1)), .string (bs ((cutAny [46] ((cutAny [101, 69] (Lib.trimPrefix s [45])).1)).2.1)), .string (bs ((cutAny [101, 69] (Lib.trimPrefix s [45])).2.1))]) Tryz.isAgg110 Tryz.sizeOf110 rfl rfl (hF.cellsAll 0 rfl)) ?_))))))))))))
 refine o_store 0 (l := [.bool (Lib.hasPrefix s [45]), .bool false, .string (bs ((cutAny [46] ((cutAny [101, 69] (Lib.trimPrefix s [45])).1)).1)), .string (bs ((cutAny [46] ((cutAny [101, 69] (Lib.trimPrefix s [45])).1)).2.1)), .string (bs ((cutAny [101, 69] (Lib.trimPrefix s [45])).2.1))]) (cs' := #[.bool (Lib.hasPrefix s [45]), .bool false, .string (bs ((cutAny [46] ((cutAny [101, 69] (Lib.trimPrefix s [45])).1)).1)), .string (bs ((cutAny [46] ((cutAny [101, 69] (Lib.trimPrefix s [45])).1)).2.1)), .string (bs ((cutAny [101, 69] (Lib.trimPrefix s [45])).2.1))]) hF Tryz.sizeOf110 rfl (v := .agg #[.bool (Lib.hasPrefix s [45]), .bool false, .string (bs ((cutAny [46] ((cutAny [101, 69] (Lib.trimPrefix s [45])).1)).1)), .string (bs ((cutAny [46] ((cutAny [101, 69] (Lib.trimPrefix s [45])).1)).2.1)), .string (bs ((cutAny [101, 69] (Lib.trimPrefix s [45])).2.1))]) rfl rfl (by simp [one]) rfl (Nat.le_of_ble_eq_true rfl) rfl ?_
 clear hF; rintro w hF -
 replace hF : FR w0 [] [(b1, .cells #[.bool (Lib.hasPrefix s [45]), .bool false, .string (bs ((cutAny [46] ((cutAny [101, 69] (Lib.trimPrefix s [45])).1)).1)), .string (bs ((cutAny [46] ((cutAny [101, 69] (Lib.trimPrefix s [45])).1)).2.1)), .string (bs ((cutAny [101, 69] (Lib.trimPrefix s [45])).2.1))] 110)] w := hF
 refine o_val (x_assign rfl) (o_nil (e_seq ?_))
 refine c_ret (e_ret (post_ret (res_ct rfl (l := [.bool (Lib.hasPrefix s [45]), .bool false, .string (bs ((cutAny [46] ((cutAny [101, 69] (Lib.trimPrefix s [45])).1)).1)), .string (bs ((cutAny [46] ((cutAny [101, 69] (Lib.trimPrefix s [45])).1)).2.1)), .string (bs ((cutAny [101, 69] (Lib.trimPrefix s [45])).2.1))]) rfl Tryz.isAgg110 Tryz.sizeOf110 rfl (hF.cellsAll 0 rfl) (v := .bool false) rfl) ?_))
 refine ⟨?_, hF.same⟩
 simp_all [readN, readEnd, litV, head48]
 refine o_val (x_move rfl) (o_val (x_move rfl) ?_)
 refine o_split (d := 54) (b := (cutAny [46] ((cutAny [101, 69] (Lib.trimPrefix s [45])).1)).2.2) rfl (fun hg9 => ?_) (fun hg9 => ?_)
 refine o_val (x_move rfl) ?_
 refine o_call (digits_c ((cutAny [46] ((cutAny [101, 69] (Lib.trimPrefix s [45])).1)).2.1) _) (x_call1 en_81 rfl rfl) ?_
 rintro _ w ⟨rfl, hE⟩
 replace hF := hF.ext hE
 clear hE
 refine o_val (v := .bool (!(digs ((cutAny [46] ((cutAny [101, 69] (Lib.trimPrefix s [45])).1)).2.1)))) (x_not rfl) (o_val (x_pickt rfl rfl) (o_val (x_pickf rfl rfl) (o_nil (e_seq ?_))))
 refine c_split (d := 59) (b := !(digs ((cutAny [46] ((cutAny [101, 69] (Lib.trimPrefix s [45])).1)).2.1))) rfl (fun hc3 => ?_) (fun hc3 => ?_)
 refine c_ift rfl (c_seq (c_region (o_val (v := .agg #[.bool (Lib.hasPrefix s [45]), .bool false, .string (bs ((cutAny [46] ((cutAny [101, 69] (Lib.trimPrefix s [45])).1)).1)), .string (bs ((cutAny [46] ((cutAny [101, 69] (Lib.trimPrefix s [45])).1)).2.1)), .string (bs ((cutAny [101, 69] (Lib.trimPrefix s [45])).2.1))]) (x_loadS (l := [.bool (Lib.hasPrefix s [45]), .bool false, .string (bs ((cutAny [46] ((cutAny [101, 69] (Lib.trimPrefix s [45])).1)).1)), .string (bs ((cutAny [46] ((cutAny [101, 69] (Lib.trimPrefix s [45])).1)).2.1)), .string (bs ((cutAny [101, 69] (Lib.trimPrefix s [45])).2.1))]) Tryz.isAgg110 Tryz.sizeOf110 rfl rfl (hF.cellsAll 0 rfl)) ?_)))
 refine o_store 0 (l := [.bool (Lib.hasPrefix s [45]), .bool false, .string (bs ((cutAny [46] ((cutAny [101, 69] (Lib.trimPrefix s [45])).1)).1)), .string (bs ((cutAny [46] ((cutAny [101, 69] (Lib.trimPrefix s [45])).1)).2.1)), .string (bs ((cutAny [101, 69] (Lib.trimPrefix s [45])).2.1))]) (cs' := #[.bool (Lib.hasPrefix s [45]), .bool false, .string (bs ((cutAny [46] ((cutAny [101, 69] (Lib.trimPrefix s [45])).1)).1)), .string (bs ((cutAny [46] ((cutAny [101, 69] (Lib.trimPrefix s [45])).1)).2.1)), .string (bs ((cutAny [101, 69] (Lib.trimPrefix s [45])).2.1))]) hF Tryz.sizeOf110 rfl (v := .agg #[.bool (Lib.hasPrefix s [45]), .bool false, .string (bs ((cutAny [46] ((cutAny [101, 69] (Lib.trimPrefix s [45])).1)).1)), .string (bs ((cutAny [46] ((cutAny [101, 69] (Lib.trimPrefix s [45])).1)).2.1)), .string (bs ((cutAny [101, 69] (Lib.trimPrefix s [45])).2.1))]) rfl rfl (by simp [one]) rfl (Nat.le_of_ble_eq_true rfl) rfl ?_
 clear hF; rintro w hF -
 replace hF : FR w0 [] [(b1, .cells #[.bool (Lib.hasPrefix s [45]), .bool false, .string (bs ((cutAny [46] ((cutAny [101, 69] (Lib.trimPrefix s [45])).1)).1)), .string (bs ((cutAny [46] ((cutAny [101, 69] (Lib.trimPrefix s [45])).1)).2.1)), .string (bs ((cutAny [101, 69] (Lib.trimPrefix s [45])).2.1))] 110)] w := hF
 refine o_val (x_assign rfl) (o_nil (e_seq ?_))
 refine c_ret (e_ret (post_ret (res_ct rfl (l := [.bool (Lib.hasPrefix s [45]), .bool false, .string (bs ((cutAny [46] ((cutAny [101, 69] (Lib.trimPrefix s [45])).1)).1)), .string (bs ((cutAny [46] ((cutAny [101, 69] (Lib.trimPrefix s [45])).1)).2.1)), .string (bs ((cutAny [101, 69] (Lib.trimPrefix s [45])).2.1))]) rfl Tryz.isAgg110 Tryz.sizeOf110 rfl (hF.cellsAll 0 rfl) (v := .bool false) rfl) ?_))
 refine ⟨?_, hF.same⟩
 simp_all [readN, readEnd, litV, head48]
 refine c_iff rfl (c_skip (e_seq (c_seq ?_)))
 refine c_drawF [] (.free 0 (.free 1 (.free 2 (.free 3 (.free 4 (.free 5 (.free 6 (.free 7 (.act 8 (.free 9 .nil)))))))))) (by kernel_rfl) hF (by kernel_rfl) (by kernel_rfl) ?_
 clear hF; rintro w hF -
 refine ⟨fun wq => FR w0 [] [(b1, .cells #[.bool (Lib.hasPrefix s [45]), .bool false, .string (bs ((cutAny [46] ((cutAny [101, 69] (Lib.trimPrefix s [45])).1)).1)), .string (bs ((cutAny [46] ((cutAny [101, 69] (Lib.trimPrefix s [45])).1)).2.1)), .string (bs ((cutAny [101, 69] (Lib.trimPrefix s [45])).2.1))] 110)] wq, hF, ?_⟩
 refine f_free rfl (v := .agg #[.bool (Lib.hasPrefix s [45]), .bool false, .string (bs ((cutAny [46] ((cutAny [101, 69] (Lib.trimPrefix s [45])).1)).1)), .string (bs ((cutAny [46] ((cutAny [101, 69] (Lib.trimPrefix s [45])).1)).2.1)), .string (bs ((cutAny [101, 69] (Lib.trimPrefix s [45])).2.1))]) (fun w hC => x_loadS (l := [.bool (Lib.hasPrefix s [45]), .bool false, .string (bs ((cutAny [46] ((cutAny [101, 69] (Lib.trimPrefix s [45])).1)).1)), .string (bs ((cutAny [46] ((cutAny [101, 69] (Lib.trimPrefix s [45])).1)).2.1)), .string (bs ((cutAny [101, 69] (Lib.trimPrefix s [45])).2.1))]) Tryz.isAgg110 Tryz.sizeOf110 rfl rfl (hC.cellsAll 0 rfl)) (f_free rfl (v := .string (bs ((cutAny [46] ((cutAny [101, 69] (Lib.trimPrefix s [45])).1)).1))) (fun w hC => x_move rfl) (f_free rfl (v := .bool (decide (((cutAny [46] ((cutAny [101, 69] (Lib.trimPrefix s [45])).1)).1 : Str) = [48]))) (fun w hC => x_eqls rfl rfl) (f_free rfl (v := .bool (decide (((cutAny [46] ((cutAny [101, 69] (Lib.trimPrefix s [45])).1)).1 : Str) = [48]))) (fun w hC => x_move rfl) ?_)))
 refine d_splitd (d := 64) (p := ((cutAny [46] ((cutAny [101, 69] (Lib.trimPrefix s [45])).1)).1 : Str) = [48]) rfl (fun hg10 => ?_) (fun hg10 => ?_)
 refine f_off rfl ?_
 refine f_off rfl ?_
 refine f_off rfl ?_
 refine f_free rfl (v := .bool true) (fun w hC => x_pickt rfl rfl) ?_
 refine f_store rfl 0 (l := [.bool (Lib.hasPrefix s [45]), .bool false, .string (bs ((cutAny [46] ((cutAny [101, 69] (Lib.trimPrefix s [45])).1)).1)), .string (bs ((cutAny [46] ((cutAny [101, 69] (Lib.trimPrefix s [45])).1)).2.1)), .string (bs ((cutAny [101, 69] (Lib.trimPrefix s [45])).2.1))]) (cs' := #[.bool (Lib.hasPrefix s [45]), .bool false, .string (bs ((cutAny [46] ((cutAny [101, 69] (Lib.trimPrefix s [45])).1)).1)), .string (bs ((cutAny [46] ((cutAny [101, 69] (Lib.trimPrefix s [45])).1)).2.1)), .string (bs ((cutAny [101, 69] (Lib.trimPrefix s [45])).2.1))]) hF Tryz.sizeOf110 rfl (v := .agg #[.bool (Lib.hasPrefix s [45]), .bool false, .string (bs ((cutAny [46] ((cutAny [101, 69] (Lib.trimPrefix s [45])).1)).1)), .string (bs ((cutAny [46] ((cutAny [101, 69] (Lib.trimPrefix s [45])).1)).2.1)), .string (bs ((cutAny [101, 69] (Lib.trimPrefix s [45])).2.1))]) rfl rfl (by simp [one]) rfl (Nat.le_of_ble_eq_true rfl) rfl ?_
 clear hF; rintro w hF -
 replace hF : FR w0 [] [(b1, .cells #[.bool (Lib.hasPrefix s [45]), .bool false, .string (bs ((cutAny [46] ((cutAny [101, 69] (Lib.trimPrefix s [45])).1)).1)), .string (bs ((cutAny [46] ((cutAny [101, 69] (Lib.trimPrefix s [45])).1)).2.1)), .string (bs ((cutAny [101, 69] (Lib.trimPrefix s [45])).2.1))] 110)] w := hF
 refine ⟨hF, ?_⟩
 refine f_free rfl (v := .bool true) (fun w hC => x_assign rfl) (d_nil (e_seq ?_))
 refine c_ret (e_ret (post_ret (res_ct rfl (l := [.bool (Lib.hasPrefix s [45]), .bool false, .string (bs ((cutAny [46] ((cutAny [101, 69] (Lib.trimPrefix s [45])).1)).1)), .string (bs ((cutAny [46] ((cutAny [101, 69] (Lib.trimPrefix s [45])).1)).2.1)), .string (bs ((cutAny [101, 69] (Lib.trimPrefix s [45])).2.1))]) rfl Tryz.isAgg110 Tryz.sizeOf110 rfl (hF.cellsAll 0 rfl) (v := .bool true) rfl) ?_))
 refine ⟨?_, hF.same⟩
 simp_all [readN, readEnd, litV, head48]
 refine f_free rfl (v := .string (bs ((cutAny [46] ((cutAny [101, 69] (Lib.trimPrefix s [45])).1)).1))) (fun w hC => x_move rfl) ?_
 have hpos := List.length_pos_iff.2 (digs_ne (s := (cutAny [46] (cutAny [101, 69] (Lib.trimPrefix s [45])).1).1) (by simp_all))
 refine f_free rfl (v := .int .u8 (((((cutAny [46] ((cutAny [101, 69] (Lib.trimPrefix s [45])).1)).1 : Str)[0]'(hpos)).toNat : Int))) (fun w hC => x_index (0) Tryz.underlying9 rfl rfl (hpos)) (f_free rfl (v := .bool (decide ((((((cutAny [46] ((cutAny [101, 69] (Lib.trimPrefix s [45])).1)).1 : Str)[0]'(hpos)).toNat : Int) : Int) ≠ (48 : Int)))) (fun w hC => x_neq rfl rfl) (f_free rfl (v := .bool (decide ((((((cutAny [46] ((cutAny [101, 69] (Lib.trimPrefix s [45])).1)).1 : Str)[0]'(hpos)).toNat : Int) : Int) ≠ (48 : Int)))) (fun w hC => x_pickf rfl rfl) ?_))
 refine f_store rfl 0 (l := [.bool (Lib.hasPrefix s [45]), .bool false, .string (bs ((cutAny [46] ((cutAny [101, 69] (Lib.trimPrefix s [45])).1)).1)), .string (bs ((cutAny [46] ((cutAny [101, 69] (Lib.trimPrefix s [45])).1)).2.1)), .string (bs ((cutAny [101, 69] (Lib.trimPrefix s [45])).2.1))]) (cs' := #[.bool (Lib.hasPrefix s [45]), .bool false, .string (bs ((cutAny [46] ((cutAny [101, 69] (Lib.trimPrefix s [45])).1)).1)), .string (bs ((cutAny [46] ((cutAny [101, 69] (Lib.trimPrefix s [45])).1)).2.1)), .string (bs ((cutAny [101, 69] (Lib.trimPrefix s [45])).2.1))]) hF Tryz.sizeOf110 rfl (v := .agg #[.bool (Lib.hasPrefix s [45]), .bool false, .string (bs ((cutAny [46] ((cutAny [101, 69] (Lib.trimPrefix s [45])).1)).1)), .string (bs ((cutAny [46] ((cutAny [101, 69] (Lib.trimPrefix s [45])).1)).2.1)), .string (bs ((cutAny [101, 69] (Lib.trimPrefix s [45])).2.1))]) rfl rfl (by simp [one]) rfl (Nat.le_of_ble_eq_true rfl) rfl ?_
 clear hF; rintro w hF -
 replace hF : FR w0 [] [(b1, .cells #[.bool (Lib.hasPrefix s [45]), .bool false, .string (bs ((cutAny [46] ((cutAny [101, 69] (Lib.trimPrefix s [45])).1)).1)), .string (bs ((cutAny [46] ((cutAny [101, 69] (Lib.trimPrefix s [45])).1)).2.1)), .string (bs ((cutAny [101, 69] (Lib.trimPrefix s [45])).2.1))] 110)] w := hF
 refine ⟨hF, ?_⟩
 refine f_free rfl (v := .bool (decide ((((((cutAny [46] ((cutAny [101, 69] (Lib.trimPrefix s [45])).1)).1 : Str)[0]'(hpos)).toNat : Int) : Int) ≠ (48 : Int)))) (fun w hC => x_assign rfl) (d_nil (e_seq ?_))
 refine c_ret (e_ret (post_ret (res_ct rfl (l := [.bool (Lib.hasPrefix s [45]), .bool false, .string (bs ((cutAny [46] ((cutAny [101, 69] (Lib.trimPrefix s [45])).1)).1)), .string (bs ((cutAny [46] ((cutAny [101, 69] (Lib.trimPrefix s [45])).1)).2.1)), .string (bs ((cutAny [101, 69] (Lib.trimPrefix s [45])).2.1))]) rfl Tryz.isAgg110 Tryz.sizeOf110 rfl (hF.cellsAll 0 rfl) (v := .bool (decide ((((((cutAny [46] ((cutAny [101, 69] (Lib.trimPrefix s [45])).1)).1 : Str)[0]'(hpos)).toNat : Int) : Int) ≠ (48 : Int)))) rfl) ?_))
 refine ⟨?_, hF.same⟩
 simp_all [readN, readEnd, litV, head48]
 refine o_off (o_off (o_off (o_val (x_pickf rfl rfl) (o_val (x_pickf rfl rfl) (o_nil (e_seq (c_iff rfl (c_skip (e_seq (c_seq ?_))))))))))
 refine c_drawF [] (.free 0 (.free 1 (.free 2 (.free 3 (.free 4 (.free 5 (.free 6 (.free 7 (.act 8 (.free 9 .nil)))))))))) (by kernel_rfl) hF (by kernel_rfl) (by kernel_rfl) ?_
 clear hF; rintro w hF -
 refine ⟨fun wq => FR w0 [] [(b1, .cells #[.bool (Lib.hasPrefix s [45]), .bool false, .string (bs ((cutAny [46] ((cutAny [101, 69] (Lib.trimPrefix s [45])).1)).1)), .string (bs ((cutAny [46] ((cutAny [101, 69] (Lib.trimPrefix s [45])).1)).2.1)), .string (bs ((cutAny [101, 69] (Lib.trimPrefix s [45])).2.1))] 110)] wq, hF, ?_⟩
 refine f_free rfl (v := .agg #[.bool (Lib.hasPrefix s [45]), .bool false, .string (bs ((cutAny [46] ((cutAny [101, 69] (Lib.trimPrefix s [45])).1)).1)), .string (bs ((cutAny [46] ((cutAny [101, 69] (Lib.trimPrefix s [45])).1)).2.1)), .string (bs ((cutAny [101, 69] (Lib.trimPrefix s [45])).2.1))]) (fun w hC => x_loadS (l := [.bool (Lib.hasPrefix s [45]), .bool false, .string (bs ((cutAny [46] ((cutAny [101, 69] (Lib.trimPrefix s [45])).1)).1)), .string (bs ((cutAny [46] ((cutAny [101, 69] (Lib.trimPrefix s [45])).1)).2.1)), .string (bs ((cutAny [101, 69] (Lib.trimPrefix s [45])).2.1))]) Tryz.isAgg110 Tryz.sizeOf110 rfl rfl (hC.cellsAll 0 rfl)) (f_free rfl (v := .string (bs ((cutAny [46] ((cutAny [101, 69] (Lib.trimPrefix s [45])).1)).1))) (fun w hC => x_move rfl) (f_free rfl (v := .bool (decide (((cutAny [46] ((cutAny [101, 69] (Lib.trimPrefix s [45])).1)).1 : Str) = [48]))) (fun w hC => x_eqls rfl rfl) (f_free rfl (v := .bool (decide (((cutAny [46] ((cutAny [101, 69] (Lib.trimPrefix s [45])).1)).1 : Str) = [48]))) (fun w hC => x_move rfl) ?_)))
 refine d_splitd (d := 64) (p := ((cutAny [46] ((cutAny [101, 69] (Lib.trimPrefix s [45])).1)).1 : Str) = [48]) rfl (fun hg11 => ?_) (fun hg11 => ?_)
 refine f_off rfl ?_
 refine f_off rfl ?_
 refine f_off rfl ?_
 refine f_free rfl (v := .bool true) (fun w hC => x_pickt rfl rfl) ?_
 refine f_store rfl 0 (l := [.bool (Lib.hasPrefix s [45]), .bool false, .string (bs ((cutAny [46] ((cutAny [101, 69] (Lib.trimPrefix s [45])).1)).1)), .string (bs ((cutAny [46] ((cutAny [101, 69] (Lib.trimPrefix s [45])).1)).2.1)), .string (bs ((cutAny [101, 69] (Lib.trimPrefix s [45])).2.1))]) (cs' := #[.bool (Lib.hasPrefix s [45]), .bool false, .string (bs ((cutAny [46] ((cutAny [101, 69] (Lib.trimPrefix s [45])).1)).1)), .string (bs ((cutAny [46] ((cutAny [101, 69] (Lib.trimPrefix s [45])).1)).2.1)), .string (bs ((cutAny [101, 69] (Lib.trimPrefix s [45])).2.1))]) hF Tryz.sizeOf110 rfl (v := .agg #[.bool (Lib.hasPrefix s [45]), .bool false, .string (bs ((cutAny [46] ((cutAny [101, 69] (Lib.trimPrefix s [45])).1)).1)), .string (bs ((cutAny [46] ((cutAny [101, 69] (Lib.trimPrefix s [45])).1)).2.1)), .string (bs ((cutAny [101, 69] (Lib.trimPrefix s [45])).2.1))]) rfl rfl (by simp [one]) rfl (Nat.le_of_ble_eq_true rfl) rfl ?_
 clear hF; rintro w hF -
 replace hF : FR w0 [] [(b1, .cells #[.bool (Lib.hasPrefix s [45]), .bool false, .string (bs ((cutAny [46] ((cutAny [101, 69] (Lib.trimPrefix s [45])).1)).1)), .string (bs ((cutAny [46] ((cutAny [101, 69] (Lib.trimPrefix s [45])).1)).2.1)), .string (bs ((cutAny [101, 69] (Lib.trimPrefix s [45])).2.1))] 110)] w := hF
 refine ⟨hF, ?_⟩
 refine f_free rfl (v := .bool true) (fun w hC => x_assign rfl) (d_nil (e_seq ?_))
 refine c_ret (e_ret (post_ret (res_ct rfl (l := [.bool (Lib.hasPrefix s [45]), .bool false, .string (bs ((cutAny [46] ((cutAny [101, 69] (Lib.trimPrefix s [45])).1)).1)), .string (bs ((cutAny [46] ((cutAny [101, 69] (Lib.trimPrefix s [45])).1)).2.1)), .string (bs ((cutAny [101, 69] (Lib.trimPrefix s [45])).2.1))]) rfl Tryz.isAgg110 Tryz.sizeOf110 rfl (hF.cellsAll 0 rfl) (v := .bool true) rfl) ?_))
 refine ⟨?_, hF.same⟩
 simp_all [readN, readEnd, litV, head48]
 refine f_free rfl (v := .string (bs ((cutAny [46] ((cutAny [101, 69] (Lib.trimPrefix s [45])).1)).1))) (fun w hC => x_move rfl) ?_
 have hpos := List.length_pos_iff.2 (digs_ne (s := (cutAny [46] (cutAny [101, 69] (Lib.trimPrefix s [45])).1).1) (by simp_all))
 refine f_free rfl (v := .int .u8 (((((cutAny [46] ((cutAny [101, 69] (Lib.trimPrefix s [45])).1)).1 : Str)[0]'(hpos)).toNat : Int))) (fun w hC => x_index (0) Tryz.underlying9 rfl rfl (hpos)) (f_free rfl (v := .bool (decide ((((((cutAny [46] ((cutAny [101, 69] (Lib.trimPrefix s [45])).1)).1 : Str)[0]'(hpos)).toNat : Int) : Int) ≠ (48 : Int)))) (fun w hC => x_neq rfl rfl) (f_free rfl (v := .bool (decide ((((((cutAny [46] ((cutAny [101, 69] (Lib.trimPrefix s [45])).1)).1 : Str)[0]'(hpos)).toNat : Int) : Int) ≠ (48 : Int)))) (fun w hC => x_pickf rfl rfl) ?_))
 refine f_store rfl 0 (l := [.bool (Lib.hasPrefix s [45]), .bool false, .string (bs ((cutAny [46] ((cutAny [101, 69] (Lib.trimPrefix s [45])).1)).1)), .string (bs ((cutAny [46] ((cutAny [101, 69] (Lib.trimPrefix s [45])).1)).2.1)), .string (bs ((cutAny [101, 69] (Lib.trimPrefix s [45])).2.1))]) (cs' := #[.bool (Lib.hasPrefix s [45]), .bool false, .string (bs ((cutAny [46] ((cutAny [101, 69] (Lib.trimPrefix s [45])).1)).1)), .string (bs ((cutAny [46] ((cutAny [101, 69] (Lib.trimPrefix s [45])).1)).2.1)), .string (bs ((cutAny [101, 69] (Lib.trimPrefix s [45])).2.1))]) hF Tryz.sizeOf110 rfl (v := .agg #[.bool (Lib.hasPrefix s [45]), .bool false, .string (bs ((cutAny [46] ((cutAny [101, 69] (Lib.trimPrefix s [45])).1)).1)), .string (bs ((cutAny [46] ((cutAny [101, 69] (Lib.trimPrefix s [45])).1)).2.1)), .string (bs ((cutAny [101, 69] (Lib.trimPrefix s [45])).2.1))]) rfl rfl (by simp [one]) rfl (Nat.le_of_ble_eq_true rfl) rfl ?_
 clear hF; rintro w hF -
 replace hF : FR w0 [] [(b1, .cells #[.bool (Lib.hasPrefix s [45]), .bool false, .string (bs ((cutAny [46] ((cutAny [101, 69] (Lib.trimPrefix s [45])).1)).1)), .string (bs ((cutAny [46] ((cutAny [101, 69] (Lib.trimPrefix s [45])).1)).2.1)), .string (bs ((cutAny [101, 69] (Lib.trimPrefix s [45])).2.1))] 110)] w := hF
 refine ⟨hF, ?_⟩
 refine f_free rfl (v := .bool (decide ((((((cutAny [46] ((cutAny [101, 69] (Lib.trimPrefix s [45])).1)).1 : Str)[0]'(hpos)).toNat : Int) : Int) ≠ (48 : Int)))) (fun w hC => x_assign rfl) (d_nil (e_seq ?_))
 refine c_ret (e_ret (post_ret (res_ct rfl (l := [.bool (Lib.hasPrefix s [45]), .bool false, .string (bs ((cutAny [46] ((cutAny [101, 69] (Lib.trimPrefix s [45])).1)).1)), .string (bs ((cutAny [46] ((cutAny [101, 69] (Lib.trimPrefix s [45])).1)).2.1)), .string (bs ((cutAny [101, 69] (Lib.trimPrefix s [45])).2.1))]) rfl Tryz.isAgg110 Tryz.sizeOf110 rfl (hF.cellsAll 0 rfl) (v := .bool (decide ((((((cutAny [46] ((cutAny [101, 69] (Lib.trimPrefix s [45])).1)).1 : Str)[0]'(hpos)).toNat : Int) : Int) ≠ (48 : Int)))) rfl) ?_))
 refine ⟨?_, hF.same⟩
 simp_all [readN, readEnd, litV, head48]
end Go.Scarf
