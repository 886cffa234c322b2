/- A part of the proof. -/
import Derived.Test.YtonoededmmohhaaGreatDoorE1
import Derived.Test.YtonoededmmohhaaGreatDoorP1
import Derived.Lib.ParseIntBCases
set_option linter.all false
namespace Go.Scarf
open Go.RowKit Go.Proofs
theorem headI_45 (s : Str) : headI s 45 = Lib.hasPrefix s [45] := headI_is s 45
theorem headI_43 (s : Str) : headI s 43 = Lib.hasPrefix s [43] := headI_is s 43
theorem trim_drop (s : Str) (c : UInt8) : Lib.trimPrefix s [c] = if Lib.hasPrefix s [c] = true then s.drop 1 else s := rfl
theorem head_bZ {W : Str} (h : digs W = true) : decide (¬ bZ W 0 = 48) = decide (W.head? ≠ some 48) := by
  have hp := List.length_pos_iff.2 (digs_ne h)
  rw [← bZ_at hp]
  exact decide_eq_decide.2 (not_congr (head48 hp))
theorem parts_read {s : Str} {neg : Bool} {whole rest : Str} {minus : Bool} {exp : Str} {ok : Bool} (h : Parts s neg whole rest minus exp ok) :
    ok = (readN s).2 ∧ (ok = true → neg = (readN s).1.neg ∧ whole = (readN s).1.whole ∧ rest = (readN s).1.rest ∧ minus = (readN s).1.low ∧ Lib.trimLeftB exp 48 = Lib.trimLeftB (readN s).1.exp 48 ∧ digs exp = true ∧ digs whole = true ∧ rest.all isDig = true) := by
  obtain ⟨s1, W, Z, R1, f, g, rfl, rfl, hc, hd, rfl, rfl, rfl, rfl, rfl⟩ := h.h
  have e1 : (if headI s 45 = true then s.drop 1 else s) = Lib.trimPrefix s [45] := by rw [trim_drop, headI_45]
  rw [e1] at hc hd
  have h2 : (cutAny [101, 69] (Lib.trimPrefix s [45])).2.1 = Z := by rw [hc]
  have h3 : (cutAny [101, 69] (Lib.trimPrefix s [45])).2.2 = f := by rw [hc]
  have g1 : (cutAny [46] (cutAny [101, 69] (Lib.trimPrefix s [45])).1).1 = whole := by rw [hd]
  have g2 : (cutAny [46] (cutAny [101, 69] (Lib.trimPrefix s [45])).1).2.1 = R1 := by rw [hd]
  have g3 : (cutAny [46] (cutAny [101, 69] (Lib.trimPrefix s [45])).1).2.2 = g := by rw [hd]
  have hr : R1 = if g = true then R1 else [] := by
    cases g with
    | true => rfl
    | false => rw [← g2]; exact cutAny_none [46] _ g3
  have he : ∀ (neg low : Bool) (e : Str), readEnd neg low (cutAny [101, 69] (Lib.trimPrefix s [45])).1 e = (⟨neg, low, whole, R1, e⟩, digs whole && (!g || digs R1) && (decide (whole = [48]) || decide (whole.head? ≠ some 48))) := by
    intro neg low e
    simp only [readEnd, g1, g2, g3]
  have hk : ∀ e : Str, digs e = true → okR whole (if g = true then R1 else [48]) e = (digs whole && (!g || digs R1) && (decide (whole = [48]) || decide (whole.head? ≠ some 48))) := by
    intro e he
    unfold okR
    rw [he, Bool.true_and]
    by_cases hw : digs whole = true
    · rw [head_bZ hw, hw, Bool.true_and, Bool.true_and]
      cases g with
      | true => rfl
      | false =>
        have : digs [48] = true := by decide
        simp [this]
    · rw [Bool.not_eq_true] at hw
      rw [hw]; simp
  have hok : ∀ e : Str, okR whole (if g = true then R1 else [48]) e = true → digs e = true ∧ digs whole = true ∧ (if g = true then R1 else []).all isDig = true := by
    intro e h
    unfold okR at h
    simp only [Bool.and_eq_true] at h
    refine ⟨h.2.2.1, h.1, ?_⟩
    cases g with
    | true => exact digs_all h.2.1
    | false => rfl
  have ht : ∀ e : Str, digs e = false → okR whole (if g = true then R1 else [48]) e = false := by
    intro e h
    unfold okR
    rw [h]; simp
  cases f with
  | true =>
    have hex : expR true Z = (if Lib.hasPrefix Z [45] then Lib.trimPrefix Z [45] else Lib.trimPrefix (Lib.trimPrefix Z [45]) [43]) := by
      rw [expR, if_pos rfl, headI_45, headI_43, trim_drop Z 45]
      by_cases h1 : Lib.hasPrefix Z [45] = true
      · simp [h1]
      · simp only [h1, if_false, false_or]
        rw [trim_drop]
        simp
    have er : readN s = if digs (expR true Z) = true then readEnd (Lib.hasPrefix s [45]) (Lib.hasPrefix Z [45]) (cutAny [101, 69] (Lib.trimPrefix s [45])).1 (expR true Z) else (⟨Lib.hasPrefix s [45], Lib.hasPrefix Z [45], [], [], []⟩, false) := by
      unfold readN
      simp only
      rw [if_pos h3, h2, hex]
    by_cases hx : digs (expR true Z) = true
    · rw [if_pos hx, he] at er
      rw [er]
      refine ⟨hk _ hx, fun h => ⟨headI_45 s, rfl, hr.symm, by rw [Bool.true_and, headI_45], rfl, hok _ h⟩⟩
    · rw [if_neg hx] at er
      rw [Bool.not_eq_true] at hx
      rw [er]
      refine ⟨ht _ hx, fun h => ?_⟩
      rw [ht _ hx] at h; cases h
  | false =>
    have hz : Z = [] := by rw [← h2]; exact cutAny_none [101, 69] _ h3
    have er : readN s = readEnd (Lib.hasPrefix s [45]) false (cutAny [101, 69] (Lib.trimPrefix s [45])).1 Z := by
      unfold readN
      simp only
      rw [if_neg (by rw [h3]; decide), h2]
    have hx : digs (expR false Z) = true := by rw [expR, if_neg (by decide)]; decide
    rw [he] at er
    rw [er]
    refine ⟨hk _ hx, fun h => ⟨headI_45 s, rfl, hr.symm, rfl, ?_, hok _ h⟩⟩
    subst hz
    rw [expR, if_neg (by decide)]
    rfl
theorem parts_len {s : Str} {neg : Bool} {whole rest : Str} {minus : Bool} {exp : Str} {ok : Bool} (h : Parts s neg whole rest minus exp ok) : whole.length ≤ s.length ∧ rest.length ≤ s.length ∧ exp.length ≤ s.length + 1 := by
  obtain ⟨s1, W, Z, R1, f, g, rfl, rfl, hc, hd, rfl, rfl, rfl, rfl, rfl⟩ := h.h
  have h1 : (if headI s 45 = true then s.drop 1 else s).length ≤ s.length := by split <;> simp
  have h2 := cutAny_fst_len [101, 69] (if headI s 45 = true then s.drop 1 else s)
  have h3 := cutAny_fst_len [46] (cutAny [101, 69] (if headI s 45 = true then s.drop 1 else s)).1
  rw [hd] at h3
  have h4 : Z.length ≤ s.length := by rw [hc] at h2; exact Nat.le_trans h2.2 h1
  refine ⟨Nat.le_trans h3.1 (Nat.le_trans h2.1 h1), ?_, ?_⟩
  · split
    · exact Nat.le_trans h3.2 (Nat.le_trans h2.1 h1)
    · exact Nat.zero_le _
  · unfold expR
    split
    · split
      · simp; omega
      · omega
    · simp
theorem trimL_cons (c : UInt8) (s : Str) : Lib.trimLeftB (c :: s) 48 = if c = 48 then Lib.trimLeftB s 48 else c :: s := by
  unfold Lib.trimLeftB
  rw [List.dropWhile_cons]
  by_cases h : c = 48 <;> simp [h]
theorem trimL_head {E : Str} (h : 0 < E.length) (h0 : bZ E 0 = 48) : Lib.trimLeftB (E.drop 1) 48 = Lib.trimLeftB E 48 := by
  rw [← bZ_at h] at h0
  cases E with
  | nil => simp at h
  | cons c s =>
    have : c = 48 := u8_48.1 h0
    rw [trimL_cons, if_pos this]; rfl
theorem trimL_stop {E : Str} (h : 0 < E.length) (h0 : ¬ bZ E 0 = 48) : Lib.trimLeftB E 48 = E := by
  rw [← bZ_at h] at h0
  cases E with
  | nil => simp at h
  | cons c s =>
    have : ¬ c = 48 := fun e => h0 (u8_48.2 e)
    rw [trimL_cons, if_neg this]
theorem drop_all {E : Str} (h : E.all isDig = true) : (E.drop 1).all isDig = true := by
  rw [List.all_eq_true] at h ⊢
  exact fun x hx => h x (List.mem_of_mem_drop hx)
theorem strip_end {E : Str} (h : 0 < E.length) (h1 : E.length ≤ 1 ∨ ¬ bZ E 0 = 48) : expVal E = expVal (Lib.trimLeftB E 48) ∧ ((9 : Int) < (E.length : Int) ↔ 9 < (Lib.trimLeftB E 48).length) := by
  by_cases h0 : bZ E 0 = 48
  · have h2 : E.length = 1 := by rcases h1 with h1 | h1; omega; exact absurd h0 h1
    rw [← trimL_head h h0]
    match E, h2 with
    | [c], _ =>
      rw [← bZ_at (s := [c]) (p := 0) (by simp)] at h0
      have : c = 48 := u8_48.1 h0
      subst this
      simp [Lib.trimLeftB, expVal]
  · rw [trimL_stop h h0]
    exact ⟨rfl, by omega⟩
theorem trimR_snoc (l : Str) (a : UInt8) : Lib.trimRightB (l ++ [a]) 48 = if a = 48 then Lib.trimRightB l 48 else l ++ [a] := by
  unfold Lib.trimRightB
  rw [List.reverse_append]
  simp only [List.reverse_cons, List.reverse_nil, List.nil_append, List.cons_append, List.dropWhile_cons]
  by_cases h : a = 48 <;> simp [h]
theorem trimR_step {d : Str} {m : Nat} (h1 : 1 ≤ m) (h2 : m ≤ d.length) : Lib.trimRightB (d.take m) 48 = if bZ (d.take m) (m - 1) = 48 then Lib.trimRightB (d.take (m - 1)) 48 else d.take m := by
  have h3 : m - 1 < d.length := by omega
  have e : d.take m = d.take (m - 1) ++ [d[m - 1]] := by
    have := List.take_succ_eq_append_getElem h3
    rwa [show m - 1 + 1 = m by omega] at this
  have h4 : bZ (d.take m) (m - 1) = ((d[m - 1].toNat : Nat) : Int) := by
    rw [← bZ_at (by simp; omega)]
    simp
  rw [h4, e, trimR_snoc]
  by_cases h : d[m - 1] = 48
  · rw [if_pos h, if_pos (u8_48.2 h)]
  · rw [if_neg h, if_neg (fun hh => h (u8_48.1 hh))]
theorem bZ_take {d : Str} {m i : Nat} (h : i < m) (h2 : m ≤ d.length) : bZ (d.take m) i = bZ d i := by
  rw [← bZ_at (show i < (d.take m).length by simp; omega), ← bZ_at (show i < d.length by omega)]
  simp
theorem expE_low {s : Str} (h : (readN s).1.low = true) : expE s = - expVal (Lib.trimLeftB (readN s).1.exp 48) := by unfold expE; rw [if_pos h]
theorem expE_high {s : Str} (h : (readN s).1.low = false) : expE s = expVal (Lib.trimLeftB (readN s).1.exp 48) := by unfold expE; rw [if_neg (by rw [h]; decide)]
theorem right_form {x : Num} (hd : x.digits.all isDig = true) (hp : 0 < x.digits.length) (hl : x.digits.length ≤ 1000) (h0 : ¬ bZ x.digits 0 = 48) (h1 : ¬ bZ x.digits (x.digits.length - 1) = 48) : rightN x = (decide (-1000000 ≤ x.exp) && decide (x.exp ≤ 1000000)) := by
  have hz : ¬ x = Num.zero := by rintro rfl; simp [Num.zero] at hp
  rw [← bZ_at hp] at h0
  rw [← bZ_at (show x.digits.length - 1 < x.digits.length by omega)] at h1
  exact rightN_end hz (by unfold digs; rw [hd, decide_eq_true (List.length_pos_iff.1 hp)]; rfl) (by omega) hp h0 (by omega) h1
set_option maxHeartbeats 8000000 in
set_option maxRecDepth 10000 in
theorem rparse_c (s : Str) (hl : s.length ≤ 140737488355327) (w0 : World) : Calls Tryz.prog 111 #[.string (bs s)] w0 (Ret fun v w' => v = .tuple #[numV (parseN s).1, .int .i64 (parseN s).2] ∧ Same [] w0 w') := by
 refine calls_start Tryz.func111 rfl Tryz.ntmps111 (Nat.le_of_ble_eq_true rfl) (args_1 _) ?_
 have hF := FR.start w0 []
 refine c_seq (c_region ?_)
 refine o_alloc (cs := #[.bool false, .string (bs ([])), .int .i64 (0)]) hF Tryz.zeroValue63 rfl ?_
 clear hF; rintro b1 w hb1 hF -
 refine o_val (x_assign rfl) (o_nil (e_seq (c_seq (c_region (o_val (x_move rfl) ?_)))))
 refine o_call (parts_c s (by omega) _) (x_call1 en_141 rfl rfl) ?_
 rintro _ w ⟨neg, whole, rest, minus, exp, ok, rfl, hp, hE⟩
 obtain ⟨hok, hfs⟩ := parts_read hp
 obtain ⟨hl1, hl2, hl3⟩ := parts_len hp
 replace hF := hF.ext hE
 clear hE
 refine o_val (x_move rfl) (o_val (x_extract rfl rfl) (o_val (x_extract rfl rfl) (o_val (x_extract rfl rfl) (o_val (x_extract rfl rfl) (o_val (x_extract rfl rfl) (o_val (x_extract rfl rfl) (o_val (x_assign rfl) (o_val (x_assign rfl) (o_val (x_assign rfl) (o_val (x_assign rfl) (o_val (x_assign rfl) (o_val (x_assign rfl) (o_nil ?_)))))))))))))
 refine e_seq (c_seq (c_seq (c_region (o_val (x_move rfl) (o_val (v := .bool (!(ok))) (x_not rfl) (o_nil (e_seq ?_)))))))
 refine c_split (d := 23) (b := !(ok)) rfl (fun hc0 => ?_) (fun hc0 => ?_)
 refine c_ift rfl (c_seq (c_region ?_))
 refine o_val (w' := w) (v := .agg #[.bool false, .string (bs ([])), .int .i64 (0)]) (by kernel_rfl) ?_
 refine o_store 0 (l := [.bool false, .string (bs ([])), .int .i64 (0)]) (cs' := #[.bool false, .string (bs ([])), .int .i64 (0)]) hF Tryz.sizeOf63 rfl (v := .agg #[.bool false, .string (bs ([])), .int .i64 (0)]) rfl rfl (by simp [one]) rfl (Nat.le_of_ble_eq_true rfl) rfl ?_
 clear hF; rintro w hF -
 replace hF : FR w0 [] [(b1, .cells #[.bool false, .string (bs ([])), .int .i64 (0)] 63)] w := hF
 refine o_val (x_assign rfl) (o_nil (e_seq ?_))
 refine c_ret (e_ret (post_ret (res_ct rfl (l := [.bool false, .string (bs ([])), .int .i64 (0)]) rfl Tryz.isAgg63 Tryz.sizeOf63 rfl (hF.cellsAll 0 rfl) (v := .int .i64 (2)) rfl) ?_))
 exact ⟨by rw [parseN_eq, if_pos (by rw [← hok]; simp_all)]; rfl, hF.same⟩
 have hokt : ok = true := by simp_all
 replace hfs := hfs hokt
 have hwr : whole.length = (readN s).1.whole.length ∧ rest.length = (readN s).1.rest.length := ⟨by rw [hfs.2.1], by rw [hfs.2.2.1]⟩
 refine c_iff rfl (c_skip (e_seq (c_seq (c_seq (c_region (o_val (x_move rfl) (o_val (v := .int .i64 ((((whole) : Str).length : Int))) (x_len_string Tryz.underlying9 rfl) (o_val (x_move rfl) (o_val (v := .int .i64 ((((rest) : Str).length : Int))) (x_len_string Tryz.underlying9 rfl) (o_val (v := .int .i64 (((whole.length + rest.length : Nat) : Int))) (x_add rfl rfl (wrap_to (by omega) (by omega) (by omega))) (o_val (v := .bool (decide ((1000 : Int) < (((whole.length + rest.length : Nat) : Int) : Int)))) (x_gtr rfl rfl) (o_nil (e_seq ?_)))))))))))))
 refine c_splitd (d := 30) (p := (1000 : Int) < (((whole.length + rest.length : Nat) : Int) : Int)) rfl (fun hc1 => ?_) (fun hc1 => ?_)
 refine c_ift rfl (c_seq (c_region ?_))
 refine o_val (w' := w) (v := .agg #[.bool false, .string (bs ([])), .int .i64 (0)]) (by kernel_rfl) ?_
 refine o_store 0 (l := [.bool false, .string (bs ([])), .int .i64 (0)]) (cs' := #[.bool false, .string (bs ([])), .int .i64 (0)]) hF Tryz.sizeOf63 rfl (v := .agg #[.bool false, .string (bs ([])), .int .i64 (0)]) rfl rfl (by simp [one]) rfl (Nat.le_of_ble_eq_true rfl) rfl ?_
 clear hF; rintro w hF -
 replace hF : FR w0 [] [(b1, .cells #[.bool false, .string (bs ([])), .int .i64 (0)] 63)] w := hF
 refine o_val (x_assign rfl) (o_nil (e_seq ?_))
 refine c_ret (e_ret (post_ret (res_ct rfl (l := [.bool false, .string (bs ([])), .int .i64 (0)]) rfl Tryz.isAgg63 Tryz.sizeOf63 rfl (hF.cellsAll 0 rfl) (v := .int .i64 (3)) rfl) ?_))
 exact ⟨by rw [parseN_eq, if_neg (by rw [← hok, hokt]; decide), if_pos (by omega)]; rfl, hF.same⟩
 refine c_iff rfl (c_skip (e_seq (c_seq ?_)))
 refine c_join (fun σ w => ∃ (E : Str), (expVal E = expVal (Lib.trimLeftB (readN s).1.exp 48)) ∧ ((9 : Int) < (E.length : Int) ↔ 9 < (Lib.trimLeftB (readN s).1.exp 48).length) ∧ (E.all isDig = true) ∧ (E.length ≤ s.length + 1) ∧ AllEq σ [(2, .pointer (some ⟨b1, 0, none⟩)), (4, .bool (neg)), (5, .string (bs (whole))), (6, .string (bs (rest))), (7, .bool (minus)), (8, .string (bs (E)))] ∧ FR w0 [] [(b1, .cells #[.bool false, .string (bs ([])), .int .i64 (0)] 63)] w) ?_ ?_
 refine c_block ?_
 refine c_loop (fun μ σ w => ∃ (E : Str), μ = E.length ∧ (Lib.trimLeftB E 48 = (Lib.trimLeftB (readN s).1.exp 48)) ∧ (0 < E.length) ∧ (E.all isDig = true) ∧ (E.length ≤ exp.length) ∧ AllEq σ [(2, .pointer (some ⟨b1, 0, none⟩)), (4, .bool (neg)), (5, .string (bs (whole))), (6, .string (bs (rest))), (7, .bool (minus)), (8, .string (bs (E)))] ∧ FR w0 [] [(b1, .cells #[.bool false, .string (bs ([])), .int .i64 (0)] 63)] w) _ ⟨exp, rfl, (hfs.2.2.2.2.1), (List.length_pos_iff.2 (digs_ne hfs.2.2.2.2.2.1)), (digs_all hfs.2.2.2.2.2.1), (Nat.le_refl _), ⟨rfl, rfl, rfl, rfl, rfl, rfl, trivial⟩, hF⟩ ?_
 clear hF; rintro μ σ w ⟨E, rfl, hEt, hE0, hE3, hE4, hs, hF⟩
 refine Cg.slots hs ?_
 clear hs; intro σ
 refine c_seq (c_seq (c_region (o_val (x_move rfl) (o_val (v := .int .i64 ((((E) : Str).length : Int))) (x_len_string Tryz.underlying9 rfl) (o_val (v := .bool (decide ((1 : Int) < ((((E) : Str).length : Int) : Int)))) (x_gtr rfl rfl) (o_val (x_move rfl) ?_))))))
 refine o_splitd (d := 35) (p := (1 : Int) < ((((E) : Str).length : Int) : Int)) rfl (fun hg0 => ?_) (fun hg0 => ?_)
 refine o_val (x_move rfl) ?_
 refine o_val (v := .int .u8 (bZ (E) 0)) (by rw [← bZ_at (s := E) (p := 0) (by omega)]; exact x_index 0 Tryz.underlying9 rfl rfl (by omega)) ?_
 refine o_val (v := .bool (decide ((bZ (E) 0 : Int) = (48 : Int)))) (x_eql rfl rfl) (o_val (x_pickt rfl rfl) (o_nil (e_seq ?_)))
 refine c_splitd (d := 39) (p := (bZ (E) 0 : Int) = (48 : Int)) rfl (fun hc2 => ?_) (fun hc2 => ?_)
 refine c_ift rfl (c_skip (e_seq (c_block (c_region (o_val (x_move rfl) (o_val (v := .string (bs ((E : Str).drop (1)))) (x_sliceL (1) Tryz.underlying9 rfl rfl (by omega)) (o_val (x_assign rfl) (o_nil (e_block ?_)))))))))
 refine e_inv ⟨_, ?_, E.drop 1, rfl, (by rw [trimL_head (by omega) (by omega)]; exact hEt), (by simp; omega), (drop_all hE3), (by simp; omega), ⟨rfl, rfl, rfl, rfl, rfl, rfl, trivial⟩, hF⟩
 simp; omega
 refine c_iff rfl ?_
 refine c_exit (e_exit rfl ?_)
 exact e_inv ⟨(E), (by rw [← hEt]; exact (strip_end hE0 (by omega)).1), (by rw [← hEt]; exact (strip_end hE0 (by omega)).2), (hE3), (by omega), ⟨rfl, rfl, rfl, rfl, rfl, rfl, trivial⟩, hF⟩
 refine o_off (o_off (o_off (o_val (x_pickf rfl rfl) (o_nil (e_seq (c_iff rfl ?_))))))
 refine c_exit (e_exit rfl ?_)
 exact e_inv ⟨(E), (by rw [← hEt]; exact (strip_end hE0 (by omega)).1), (by rw [← hEt]; exact (strip_end hE0 (by omega)).2), (hE3), (by omega), ⟨rfl, rfl, rfl, rfl, rfl, rfl, trivial⟩, hF⟩
 clear hF; rintro σ w ⟨E, hE1, hE2, hE3, hE4, hs, hF⟩
 refine Eg.slots hs ?_
 clear hs; intro σ
 refine e_seq (c_seq (c_seq (c_region (o_val (x_move rfl) (o_val (v := .int .i64 ((((E) : Str).length : Int))) (x_len_string Tryz.underlying9 rfl) (o_val (v := .bool (decide ((9 : Int) < ((((E) : Str).length : Int) : Int)))) (x_gtr rfl rfl) (o_nil (e_seq ?_))))))))
 refine c_splitd (d := 44) (p := (9 : Int) < ((((E) : Str).length : Int) : Int)) rfl (fun hc3 => ?_) (fun hc3 => ?_)
 refine c_ift rfl (c_seq (c_region ?_))
 refine o_val (w' := w) (v := .agg #[.bool false, .string (bs ([])), .int .i64 (0)]) (by kernel_rfl) ?_
 refine o_store 0 (l := [.bool false, .string (bs ([])), .int .i64 (0)]) (cs' := #[.bool false, .string (bs ([])), .int .i64 (0)]) hF Tryz.sizeOf63 rfl (v := .agg #[.bool false, .string (bs ([])), .int .i64 (0)]) rfl rfl (by simp [one]) rfl (Nat.le_of_ble_eq_true rfl) rfl ?_
 clear hF; rintro w hF -
 replace hF : FR w0 [] [(b1, .cells #[.bool false, .string (bs ([])), .int .i64 (0)] 63)] w := hF
 refine o_val (x_assign rfl) (o_nil (e_seq ?_))
 refine c_ret (e_ret (post_ret (res_ct rfl (l := [.bool false, .string (bs ([])), .int .i64 (0)]) rfl Tryz.isAgg63 Tryz.sizeOf63 rfl (hF.cellsAll 0 rfl) (v := .int .i64 (4)) rfl) ?_))
 exact ⟨by rw [parseN_eq, if_neg (by rw [← hok, hokt]; decide), if_neg (by omega), if_pos (by omega)]; rfl, hF.same⟩
 refine c_iff rfl (c_skip (e_seq (c_seq (c_region (o_val (x_assign rfl) (o_nil (e_seq (c_seq (c_seq (c_region (o_val (x_assign rfl) (o_nil (e_seq ?_)))))))))))))
 refine c_block ?_
 refine c_loop (fun μ σ w => ∃ (q : Nat), μ = E.length - q ∧ (q ≤ E.length) ∧ AllEq σ [(2, .pointer (some ⟨b1, 0, none⟩)), (4, .bool (neg)), (5, .string (bs (whole))), (6, .string (bs (rest))), (7, .bool (minus)), (8, .string (bs (E))), (10, .int .i64 (expVal (E.take q))), (11, .int .i64 ((q : Int)))] ∧ FR w0 [] [(b1, .cells #[.bool false, .string (bs ([])), .int .i64 (0)] 63)] w) _ ⟨0, rfl, (Nat.zero_le _), ⟨rfl, rfl, rfl, rfl, rfl, rfl, rfl, rfl, trivial⟩, hF⟩ ?_
 clear hF; rintro μ σ w ⟨q, rfl, hq, hs, hF⟩
 refine Cg.slots hs ?_
 clear hs; intro σ
 refine c_seq (c_seq (c_region (o_val (x_move rfl) (o_val (x_move rfl) (o_val (v := .int .i64 ((((E) : Str).length : Int))) (x_len_string Tryz.underlying9 rfl) (o_val (v := .bool (decide (((q : Int) : Int) < ((((E) : Str).length : Int) : Int)))) (x_lss rfl rfl) (o_nil (e_seq ?_))))))))
 refine c_splitd (d := 49) (p := ((q : Int) : Int) < ((((E) : Str).length : Int) : Int)) rfl (fun hc4 => ?_) (fun hc4 => ?_)
 have hdq := List.all_eq_true.1 hE3 E[q] (List.getElem_mem (by omega))
 unfold isDig at hdq
 simp only [Bool.and_eq_true, decide_eq_true_eq] at hdq
 have hbq := UInt8.toNat_lt E[q]
 have hb := expVal_lt (E.take q) (all_take q hE3) (by rw [List.length_take]; omega)
 refine c_ift rfl (c_skip (e_seq (c_seq (c_block (c_region (o_val (x_move rfl) (o_val (v := .int .i64 (10 * expVal (E.take q))) (x_mul rfl rfl (wrap_id (by omega) (by omega))) (o_val (x_move rfl) (o_val (x_move rfl) (o_val (v := .int .u8 ((((E : Str)[q]'(by omega)).toNat : Int))) (x_index (q) Tryz.underlying9 rfl rfl (by omega)) ?_))))))))))
 refine o_val (v := .int .u8 (((E[q].toNat : Nat) : Int) - 48)) (x_sub rfl rfl (by rw [IntKind.wrap_u8]; omega)) ?_
 refine o_val (v := .int .i64 (((E[q].toNat : Nat) : Int) - 48)) (x_conv_int Tryz.underlying5 Tryz.underlying3 rfl (wrap_id (by omega) (by omega))) ?_
 refine o_val (v := .int .i64 (expVal (E.take (q + 1)))) (x_add rfl rfl (by rw [expVal_take _ q (by omega)]; exact wrap_id (by omega) (by omega))) ?_
 refine o_val (x_assign rfl) (o_nil (e_block (e_seq (c_region (o_val (x_move rfl) (o_val (v := .int .i64 (((q + 1 : Nat) : Int))) (x_add rfl rfl (wrap_to (by omega) (by omega) (by omega))) (o_val (x_assign rfl) (o_nil ?_))))))))
 refine e_inv ⟨_, ?_, q + 1, rfl, (by omega), ⟨rfl, rfl, rfl, rfl, rfl, rfl, rfl, rfl, trivial⟩, hF⟩
 omega
 refine c_iff rfl ?_
 refine c_exit (e_exit rfl ?_)
 refine e_seq ?_
 have eT : E.take q = E := List.take_of_length_le (by omega)
 have hb := expVal_lt E hE3 (by omega)
 have hE : -1000000000 < expE s ∧ expE s < 1000000000 := by unfold expE; rw [← hE1]; split <;> omega
 refine c_seq ?_
 refine c_join (fun σ w => AllEq σ [(2, .pointer (some ⟨b1, 0, none⟩)), (4, .bool (neg)), (5, .string (bs (whole))), (6, .string (bs (rest))), (10, .int .i64 (expE s))] ∧ FR w0 [] [(b1, .cells #[.bool false, .string (bs ([])), .int .i64 (0)] 63)] w) ?_ ?_
 refine c_seq (c_region (o_val (x_move rfl) (o_nil (e_seq ?_))))
 refine c_split (d := 60) (b := minus) rfl (fun hc5 => ?_) (fun hc5 => ?_)
 have eE : - expVal E = expE s := by rw [hE1, expE_low (by rw [← hfs.2.2.2.1]; assumption)]
 rw [eT]
 refine c_ift rfl (c_region (o_val (x_move rfl) ?_))
 refine o_val (v := .int .i64 (expE s)) (x_neg rfl (wrap_to (by rw [← eE]; omega) (by omega) (by omega))) ?_
 refine o_val (x_assign rfl) (o_nil ?_)
 exact e_inv ⟨⟨rfl, rfl, rfl, rfl, rfl, trivial⟩, hF⟩
 have eE : expVal E = expE s := by rw [hE1, expE_high (by rw [← hfs.2.2.2.1]; assumption)]
 rw [eT, eE]
 refine c_iff rfl (c_skip ?_)
 exact e_inv ⟨⟨rfl, rfl, rfl, rfl, rfl, trivial⟩, hF⟩
 clear hF; rintro σ w ⟨hs, hF⟩
 refine Eg.slots hs ?_
 clear hs; intro σ
 refine e_seq (c_seq (c_region (o_val (x_move rfl) (o_val (x_move rfl) (o_val (v := .int .i64 ((((rest) : Str).length : Int))) (x_len_string Tryz.underlying9 rfl) (o_val (v := .int .i64 (expE s - (rest.length : Nat))) (x_sub rfl rfl (wrap_id (by omega) (by omega))) (o_val (x_assign rfl) (o_nil (e_seq (c_seq (c_region (o_val (x_move rfl) (o_val (x_move rfl) ?_)))))))))))))
 refine o_val (v := .string (bs ((whole) ++ (rest)))) (x_cat rfl rfl (by omega)) (o_val (x_assign rfl) (o_nil (e_seq (c_seq ?_))))
 refine c_join (fun σ w => ∃ (d : Str), (d = (Lib.trimLeftB ((readN s).1.whole ++ (readN s).1.rest) 48)) ∧ (0 < d.length → ¬ bZ d 0 = 48) ∧ (d.all isDig = true) ∧ (d.length ≤ whole.length + rest.length) ∧ AllEq σ [(2, .pointer (some ⟨b1, 0, none⟩)), (4, .bool (neg)), (10, .int .i64 (expE s - (rest.length : Nat))), (12, .string (bs (d)))] ∧ FR w0 [] [(b1, .cells #[.bool false, .string (bs ([])), .int .i64 (0)] 63)] w) ?_ ?_
 refine c_block ?_
 refine c_loop (fun μ σ w => ∃ (D : Str), μ = D.length ∧ (Lib.trimLeftB D 48 = Lib.trimLeftB (whole ++ rest) 48) ∧ (D.all isDig = true) ∧ (D.length ≤ whole.length + rest.length) ∧ AllEq σ [(2, .pointer (some ⟨b1, 0, none⟩)), (4, .bool (neg)), (10, .int .i64 (expE s - (rest.length : Nat))), (12, .string (bs (D)))] ∧ FR w0 [] [(b1, .cells #[.bool false, .string (bs ([])), .int .i64 (0)] 63)] w) _ ⟨(whole ++ rest), rfl, (rfl), (by rw [List.all_append, digs_all hfs.2.2.2.2.2.2.1, hfs.2.2.2.2.2.2.2]; rfl), (by simp), ⟨rfl, rfl, rfl, rfl, trivial⟩, hF⟩ ?_
 clear hF; rintro μ σ w ⟨D, rfl, hDt, hDa, hDl, hs, hF⟩
 refine Cg.slots hs ?_
 clear hs; intro σ
 refine c_seq (c_seq (c_region (o_val (x_move rfl) (o_val (v := .int .i64 ((((D) : Str).length : Int))) (x_len_string Tryz.underlying9 rfl) (o_val (v := .bool (decide ((0 : Int) < ((((D) : Str).length : Int) : Int)))) (x_gtr rfl rfl) (o_val (x_move rfl) ?_))))))
 refine o_splitd (d := 73) (p := (0 : Int) < ((((D) : Str).length : Int) : Int)) rfl (fun hg1 => ?_) (fun hg1 => ?_)
 refine o_val (x_move rfl) ?_
 refine o_val (v := .int .u8 (bZ (D) 0)) (by rw [← bZ_at (s := D) (p := 0) (by omega)]; exact x_index 0 Tryz.underlying9 rfl rfl (by omega)) ?_
 refine o_val (v := .bool (decide ((bZ (D) 0 : Int) = (48 : Int)))) (x_eql rfl rfl) (o_val (x_pickt rfl rfl) (o_nil (e_seq ?_)))
 refine c_splitd (d := 77) (p := (bZ (D) 0 : Int) = (48 : Int)) rfl (fun hc6 => ?_) (fun hc6 => ?_)
 refine c_ift rfl (c_skip (e_seq (c_block (c_region (o_val (x_move rfl) (o_val (v := .string (bs ((D : Str).drop (1)))) (x_sliceL (1) Tryz.underlying9 rfl rfl (by omega)) (o_val (x_assign rfl) (o_nil (e_block ?_)))))))))
 refine e_inv ⟨_, ?_, D.drop 1, rfl, (by rw [trimL_head (by omega) (by omega)]; exact hDt), (drop_all hDa), (by simp; omega), ⟨rfl, rfl, rfl, rfl, trivial⟩, hF⟩
 simp; omega
 refine c_iff rfl ?_
 refine c_exit (e_exit rfl ?_)
 exact e_inv ⟨(D), (by rw [← hfs.2.1, ← hfs.2.2.1, ← hDt]; first | exact (trimL_stop (by omega) (by omega)).symm | (have h0 : D = [] := List.eq_nil_of_length_eq_zero (by omega); rw [h0]; rfl)), (fun h => by omega), (hDa), (hDl), ⟨rfl, rfl, rfl, rfl, trivial⟩, hF⟩
 refine o_off (o_off (o_off (o_val (x_pickf rfl rfl) (o_nil (e_seq (c_iff rfl ?_))))))
 refine c_exit (e_exit rfl ?_)
 exact e_inv ⟨(D), (by rw [← hfs.2.1, ← hfs.2.2.1, ← hDt]; first | exact (trimL_stop (by omega) (by omega)).symm | (have h0 : D = [] := List.eq_nil_of_length_eq_zero (by omega); rw [h0]; rfl)), (fun h => by omega), (hDa), (hDl), ⟨rfl, rfl, rfl, rfl, trivial⟩, hF⟩
 clear hF; rintro σ w ⟨d, hd, hd0, hda, hdl, hs, hF⟩
 refine Eg.slots hs ?_
 clear hs; intro σ
 refine e_seq (c_seq (c_seq (c_region (o_val (x_move rfl) (o_val (v := .bool (decide ((d : Str) = []))) (x_eqls rfl rfl) (o_nil (e_seq ?_)))))))
 refine c_splitd (d := 81) (p := (d : Str) = []) rfl (fun hc7 => ?_) (fun hc7 => ?_)
 refine c_ift rfl (c_seq (c_region ?_))
 refine o_val (w' := w) (v := .agg #[.bool false, .string (bs ([])), .int .i64 (0)]) (by kernel_rfl) ?_
 refine o_store 0 (l := [.bool false, .string (bs ([])), .int .i64 (0)]) (cs' := #[.bool false, .string (bs ([])), .int .i64 (0)]) hF Tryz.sizeOf63 rfl (v := .agg #[.bool false, .string (bs ([])), .int .i64 (0)]) rfl rfl (by simp [one]) rfl (Nat.le_of_ble_eq_true rfl) rfl ?_
 clear hF; rintro w hF -
 replace hF : FR w0 [] [(b1, .cells #[.bool false, .string (bs ([])), .int .i64 (0)] 63)] w := hF
 refine o_val (x_assign rfl) (o_nil (e_seq ?_))
 refine c_ret (e_ret (post_ret (res_ct rfl (l := [.bool false, .string (bs ([])), .int .i64 (0)]) rfl Tryz.isAgg63 Tryz.sizeOf63 rfl (hF.cellsAll 0 rfl) (v := .int .i64 (0)) rfl) ?_))
 exact ⟨by rw [parseN_eq, if_neg (by rw [← hok, hokt]; decide), if_neg (by omega), if_neg (by omega), if_pos (by rw [← hd]; assumption)]; rfl, hF.same⟩
 refine c_iff rfl (c_skip (e_seq (c_seq ?_)))
 refine c_join (fun σ w => ∃ (m : Nat), ∃ (sh : Str), ∃ (ee : Int), (ee = expE s - (rest.length : Nat) + (d.length - m : Nat)) ∧ (sh = (d : Str).take m) ∧ (1 ≤ m) ∧ (m ≤ d.length) ∧ (Lib.trimRightB d 48 = d.take m) ∧ (¬ bZ ((d : Str).take m) (m - 1) = 48) ∧ AllEq σ [(2, .pointer (some ⟨b1, 0, none⟩)), (4, .bool (neg)), (10, .int .i64 (ee)), (12, .string (bs (sh)))] ∧ FR w0 [] [(b1, .cells #[.bool false, .string (bs ([])), .int .i64 (0)] 63)] w) ?_ ?_
 refine c_block ?_
 have hdp : 0 < d.length := List.length_pos_iff.2 (by assumption)
 refine c_loop (fun μ σ w => ∃ (m : Nat), ∃ (D2 : Str), ∃ (ee : Int), μ = m + 1 ∧ (ee = expE s - (rest.length : Nat) + (d.length - m : Nat)) ∧ (D2 = (d : Str).take m) ∧ (1 ≤ m) ∧ (m ≤ d.length) ∧ (Lib.trimRightB d 48 = Lib.trimRightB (d.take m) 48) ∧ AllEq σ [(2, .pointer (some ⟨b1, 0, none⟩)), (4, .bool (neg)), (10, .int .i64 (ee)), (12, .string (bs (D2)))] ∧ FR w0 [] [(b1, .cells #[.bool false, .string (bs ([])), .int .i64 (0)] 63)] w) _ ⟨d.length, d, expE s - (rest.length : Nat), rfl, (by omega), (by rw [List.take_length]), (hdp), (Nat.le_refl _), (by rw [List.take_length]), ⟨rfl, rfl, rfl, rfl, trivial⟩, hF⟩ ?_
 clear hF; rintro μ σ w ⟨m, D2, ee, rfl, hee, hD2, hm1, hm2, hmt, hs, hF⟩
 refine Cg.slots hs ?_
 clear hs; intro σ
 have hml : D2.length = m := by rw [hD2, List.length_take]; omega
 refine c_seq (c_seq (c_region (o_val (x_move rfl) (o_val (x_move rfl) (o_val (v := .int .i64 ((((D2) : Str).length : Int))) (x_len_string Tryz.underlying9 rfl) (o_val (v := .int .i64 (((m - 1 : Nat) : Int))) (x_sub rfl rfl (wrap_to (by omega) (by omega) (by omega))) ?_))))))
 refine o_val (v := .int .u8 (bZ (D2) (m - 1))) (by rw [← bZ_at (s := D2) (p := (m - 1)) (by omega)]; exact x_index (m - 1) Tryz.underlying9 rfl rfl (by omega)) ?_
 refine o_val (v := .bool (decide ((bZ (D2) (m - 1) : Int) = (48 : Int)))) (x_eql rfl rfl) (o_nil (e_seq ?_))
 refine c_splitd (d := 88) (p := (bZ (D2) (m - 1) : Int) = (48 : Int)) rfl (fun hc8 => ?_) (fun hc8 => ?_)
 refine c_ift rfl (c_skip (e_seq (c_block (c_seq (c_region (o_val (x_move rfl) (o_val (x_move rfl) (o_val (v := .int .i64 ((((D2) : Str).length : Int))) (x_len_string Tryz.underlying9 rfl) (o_val (v := .int .i64 (((m - 1 : Nat) : Int))) (x_sub rfl rfl (wrap_to (by omega) (by omega) (by omega))) (o_val (v := .string (bs ((D2 : Str).take (m - 1)))) (x_sliceH (m - 1) Tryz.underlying9 rfl rfl (by omega)) (o_val (x_assign rfl) (o_nil (e_seq ?_)))))))))))))
 refine c_region (o_val (x_move rfl) (o_val (v := .int .i64 (ee + 1)) (x_add rfl rfl (wrap_to (by omega) (by omega) (by omega))) (o_val (x_assign rfl) (o_nil (e_block ?_)))))
 refine e_inv ⟨_, ?_, m - 1, D2.take (m - 1), ee + 1, rfl, (by omega), (by rw [hD2, List.take_take, Nat.min_eq_left (by omega)]), (by have h := hd0 hdp; rw [← bZ_take (m := m) (by omega) hm2, ← hD2] at h; rcases Nat.lt_or_ge 1 m with h1 | h1; omega; exfalso; have h2 : m - 1 = 0 := (by omega); have h3 : bZ D2 (m - 1) = 48 := (by assumption); rw [h2] at h3; exact absurd h3 h), (by omega), (by rw [hmt, trimR_step hm1 hm2, if_pos (by rw [← hD2]; assumption)]), ⟨rfl, rfl, rfl, rfl, trivial⟩, hF⟩
 omega
 refine c_iff rfl ?_
 refine c_exit (e_exit rfl ?_)
 exact e_inv ⟨(m), (D2), (ee), (hee), (hD2), (hm1), (hm2), (by rw [hmt, trimR_step hm1 hm2, if_neg (by rw [← hD2]; assumption)]), (by rw [← hD2]; assumption), ⟨rfl, rfl, rfl, rfl, trivial⟩, hF⟩
 clear hF; rintro σ w ⟨m, sh, ee, hee, hsh, hm1, hm2, hmt, hlast, hs, hF⟩
 refine Eg.slots hs ?_
 clear hs; intro σ
 refine e_seq (c_seq (c_seq (c_region (o_val (x_move rfl) (o_val (v := .bool (decide ((ee : Int) < ((-1000000) : Int)))) (x_lss rfl rfl) (o_val (x_move rfl) ?_))))))
 refine o_splitd (d := 98) (p := (ee : Int) < ((-1000000) : Int)) rfl (fun hg2 => ?_) (fun hg2 => ?_)
 refine o_off (o_off (o_val (x_pickt rfl rfl) (o_nil (e_seq (c_ift rfl (c_seq (c_region ?_)))))))
 refine o_val (w' := w) (v := .agg #[.bool false, .string (bs ([])), .int .i64 (0)]) (by kernel_rfl) ?_
 refine o_store 0 (l := [.bool false, .string (bs ([])), .int .i64 (0)]) (cs' := #[.bool false, .string (bs ([])), .int .i64 (0)]) hF Tryz.sizeOf63 rfl (v := .agg #[.bool false, .string (bs ([])), .int .i64 (0)]) rfl rfl (by simp [one]) rfl (Nat.le_of_ble_eq_true rfl) rfl ?_
 clear hF; rintro w hF -
 replace hF : FR w0 [] [(b1, .cells #[.bool false, .string (bs ([])), .int .i64 (0)] 63)] w := hF
 refine o_val (x_assign rfl) (o_nil (e_seq ?_))
 refine c_ret (e_ret (post_ret (res_ct rfl (l := [.bool false, .string (bs ([])), .int .i64 (0)]) rfl Tryz.isAgg63 Tryz.sizeOf63 rfl (hF.cellsAll 0 rfl) (v := .int .i64 (4)) rfl) ?_))
 subst hsh
 subst hee
 have hne : ¬ d = [] := List.length_pos_iff.1 (by omega)
 have hrf := right_form (x := ⟨(readN s).1.neg, d.take m, expE s - (rest.length : Nat) + (d.length - m : Nat)⟩) (all_take m hda) (by simp; omega) (by simp; omega) (by rw [bZ_take (by omega) hm2]; exact hd0 (by omega)) (by show ¬ bZ (d.take m) ((d.take m).length - 1) = 48; rw [List.length_take, Nat.min_eq_left hm2]; exact hlast)
 have hfe : expE s - (rest.length : Nat) + (d.length - m : Nat) = expE s - (readN s).1.rest.length + d.length - (d.take m).length := by rw [List.length_take, Nat.min_eq_left hm2, ← hwr.2]; omega
 refine ⟨?_, hF.same⟩
 rw [parseN_eq, if_neg (by rw [← hok, hokt]; decide), if_neg (by omega), if_neg (by omega), ← hd, if_neg hne, hmt, ← hfe, hrf]
 first | (rw [if_pos (by simp; omega)]; rfl) | (rw [if_neg (by simp; omega), hfs.1]; rfl)
 refine o_val (x_move rfl) (o_val (v := .bool (decide ((1000000 : Int) < (ee : Int)))) (x_gtr rfl rfl) (o_val (x_pickf rfl rfl) (o_nil (e_seq ?_))))
 refine c_splitd (d := 101) (p := (1000000 : Int) < (ee : Int)) rfl (fun hc9 => ?_) (fun hc9 => ?_)
 refine c_ift rfl (c_seq (c_region ?_))
 refine o_val (w' := w) (v := .agg #[.bool false, .string (bs ([])), .int .i64 (0)]) (by kernel_rfl) ?_
 refine o_store 0 (l := [.bool false, .string (bs ([])), .int .i64 (0)]) (cs' := #[.bool false, .string (bs ([])), .int .i64 (0)]) hF Tryz.sizeOf63 rfl (v := .agg #[.bool false, .string (bs ([])), .int .i64 (0)]) rfl rfl (by simp [one]) rfl (Nat.le_of_ble_eq_true rfl) rfl ?_
 clear hF; rintro w hF -
 replace hF : FR w0 [] [(b1, .cells #[.bool false, .string (bs ([])), .int .i64 (0)] 63)] w := hF
 refine o_val (x_assign rfl) (o_nil (e_seq ?_))
 refine c_ret (e_ret (post_ret (res_ct rfl (l := [.bool false, .string (bs ([])), .int .i64 (0)]) rfl Tryz.isAgg63 Tryz.sizeOf63 rfl (hF.cellsAll 0 rfl) (v := .int .i64 (4)) rfl) ?_))
 subst hsh
 subst hee
 have hne : ¬ d = [] := List.length_pos_iff.1 (by omega)
 have hrf := right_form (x := ⟨(readN s).1.neg, d.take m, expE s - (rest.length : Nat) + (d.length - m : Nat)⟩) (all_take m hda) (by simp; omega) (by simp; omega) (by rw [bZ_take (by omega) hm2]; exact hd0 (by omega)) (by show ¬ bZ (d.take m) ((d.take m).length - 1) = 48; rw [List.length_take, Nat.min_eq_left hm2]; exact hlast)
 have hfe : expE s - (rest.length : Nat) + (d.length - m : Nat) = expE s - (readN s).1.rest.length + d.length - (d.take m).length := by rw [List.length_take, Nat.min_eq_left hm2, ← hwr.2]; omega
 refine ⟨?_, hF.same⟩
 rw [parseN_eq, if_neg (by rw [← hok, hokt]; decide), if_neg (by omega), if_neg (by omega), ← hd, if_neg hne, hmt, ← hfe, hrf]
 first | (rw [if_pos (by simp; omega)]; rfl) | (rw [if_neg (by simp; omega), hfs.1]; rfl)
 refine c_iff rfl (c_skip (e_seq (c_seq (c_region (o_val (x_move rfl) (o_val (x_move rfl) (o_val (x_move rfl) ?_)))))))
 refine o_val (w' := w) (v := .agg #[.bool (neg), .string (bs (sh)), .int .i64 (ee)]) (by kernel_rfl) ?_
 refine o_store 0 (l := [.bool (neg), .string (bs (sh)), .int .i64 (ee)]) (cs' := #[.bool (neg), .string (bs (sh)), .int .i64 (ee)]) hF Tryz.sizeOf63 rfl (v := .agg #[.bool (neg), .string (bs (sh)), .int .i64 (ee)]) rfl rfl (by simp [one]) rfl (Nat.le_of_ble_eq_true rfl) rfl ?_
 clear hF; rintro w hF -
 replace hF : FR w0 [] [(b1, .cells #[.bool (neg), .string (bs (sh)), .int .i64 (ee)] 63)] w := hF
 refine o_val (x_assign rfl) (o_nil (e_seq ?_))
 refine c_ret (e_ret (post_ret (res_ct rfl (l := [.bool (neg), .string (bs (sh)), .int .i64 (ee)]) rfl Tryz.isAgg63 Tryz.sizeOf63 rfl (hF.cellsAll 0 rfl) (v := .int .i64 (0)) rfl) ?_))
 subst hsh
 subst hee
 have hne : ¬ d = [] := List.length_pos_iff.1 (by omega)
 have hrf := right_form (x := ⟨(readN s).1.neg, d.take m, expE s - (rest.length : Nat) + (d.length - m : Nat)⟩) (all_take m hda) (by simp; omega) (by simp; omega) (by rw [bZ_take (by omega) hm2]; exact hd0 (by omega)) (by show ¬ bZ (d.take m) ((d.take m).length - 1) = 48; rw [List.length_take, Nat.min_eq_left hm2]; exact hlast)
 have hfe : expE s - (rest.length : Nat) + (d.length - m : Nat) = expE s - (readN s).1.rest.length + d.length - (d.take m).length := by rw [List.length_take, Nat.min_eq_left hm2, ← hwr.2]; omega
 refine ⟨?_, hF.same⟩
 rw [parseN_eq, if_neg (by rw [← hok, hokt]; decide), if_neg (by omega), if_neg (by omega), ← hd, if_neg hne, hmt, ← hfe, hrf]
 first | (rw [if_pos (by simp; omega)]; rfl) | (rw [if_neg (by simp; omega), hfs.1]; rfl)
set_option maxHeartbeats 1000000 in
set_option maxRecDepth 10000 in
theorem rdecimal_c (s : Str) (hl : s.length ≤ 140737488355327) (w0 : World) : Calls Tryz.prog 85 #[.string (bs s)] w0 (Ret fun v w' => v = .tuple #[numV (parseN s).1, .bool (decimalB s)] ∧ Same [] w0 w') := by
 refine calls_start Tryz.func85 rfl Tryz.ntmps85 (Nat.le_of_ble_eq_true rfl) (args_1 _) ?_
 have hF := FR.start w0 []
 refine c_seq (c_region ?_)
 refine o_alloc (cs := #[.bool false, .string (bs ([])), .int .i64 (0)]) hF Tryz.zeroValue63 rfl ?_
 clear hF; rintro b1 w hb1 hF -
 refine o_val (x_assign rfl) (o_nil (e_seq (c_seq (c_region (o_val (x_move rfl) ?_)))))
 refine o_call (rparse_c s hl _) (x_call1 en_111 rfl rfl) ?_
 rintro _ w ⟨rfl, hE⟩
 replace hF := hF.ext hE
 clear hE
 refine o_val (x_move rfl) (o_val (x_extract rfl rfl) (o_val (x_extract rfl rfl) ?_))
 refine o_lay (l := [.bool ((parseN s).1.neg), .string (bs ((parseN s).1.digits)), .int .i64 ((parseN s).1.exp)]) hF Tryz.zeroValue63 Tryz.sizeOf63 rfl (v := .agg #[.bool ((parseN s).1.neg), .string (bs ((parseN s).1.digits)), .int .i64 ((parseN s).1.exp)]) rfl rfl (by simp [one]) rfl ?_
 clear hF; rintro b2 w hb2 hF -
 refine o_val (x_assign rfl) (o_nil (e_seq (c_seq ?_)))
 refine c_drawF [] (.free 0 (.free 1 (.free 2 (.free 3 (.free 4 (.free 6 (.act 5 (.free 7 (.free 8 (.act 9 (.free 10 .nil))))))))))) (by kernel_rfl) hF (by kernel_rfl) (by kernel_rfl) ?_
 clear hF; rintro w hF -
 refine ⟨fun wq => FR w0 [] [(b2, .cells #[.bool ((parseN s).1.neg), .string (bs ((parseN s).1.digits)), .int .i64 ((parseN s).1.exp)] 63)] wq, hF.sub (.cons_cons _ (.cons _ .slnil)), ?_⟩
 refine f_free rfl (v := .agg #[.bool ((parseN s).1.neg), .string (bs ((parseN s).1.digits)), .int .i64 ((parseN s).1.exp)]) (fun w hC => x_loadS (l := [.bool ((parseN s).1.neg), .string (bs ((parseN s).1.digits)), .int .i64 ((parseN s).1.exp)]) Tryz.isAgg63 Tryz.sizeOf63 rfl rfl (hC.cellsAll 0 rfl)) (f_free rfl (v := .int .i64 ((parseN s).2)) (fun w hC => x_move rfl) (f_free rfl (v := .bool (decide (((parseN s).2 : Int) = (0 : Int)))) (fun w hC => x_eql rfl rfl) (f_free rfl (v := .bool (decide (((parseN s).2 : Int) = (0 : Int)))) (fun w hC => x_move rfl) ?_)))
 refine d_splitd (d := 14) (p := ((parseN s).2 : Int) = (0 : Int)) rfl (fun hg0 => ?_) (fun hg0 => ?_)
 refine f_free rfl (v := .agg #[.bool ((parseN s).1.neg), .string (bs ((parseN s).1.digits)), .int .i64 ((parseN s).1.exp)]) (fun w hC => x_loadS (l := [.bool ((parseN s).1.neg), .string (bs ((parseN s).1.digits)), .int .i64 ((parseN s).1.exp)]) Tryz.isAgg63 Tryz.sizeOf63 rfl rfl (hC.cellsAll 0 rfl)) (f_free rfl (v := .string (bs (s))) (fun w hC => x_move rfl) ?_)
 refine f_call rfl (rtext_c (parseN s).1 (by have := parseN_len s; omega) _) (x_call1 en_112 rfl rfl) ?_
 rintro _ w ⟨rfl, hE⟩
 replace hF := hF.ext hE
 clear hE
 refine ⟨hF.sub (.cons_cons _ (.cons _ .slnil)), ?_⟩
 refine f_free rfl (v := .bool (decide ((textN (parseN s).1 : Str) = s))) (fun w hC => x_eqls rfl rfl) (f_free rfl (v := .bool (decide ((textN (parseN s).1 : Str) = s))) (fun w hC => x_pickt rfl rfl) ?_)
 refine f_store rfl 1 (l := [.bool ((parseN s).1.neg), .string (bs ((parseN s).1.digits)), .int .i64 ((parseN s).1.exp)]) (cs' := #[.bool ((parseN s).1.neg), .string (bs ((parseN s).1.digits)), .int .i64 ((parseN s).1.exp)]) hF Tryz.sizeOf63 rfl (v := .agg #[.bool ((parseN s).1.neg), .string (bs ((parseN s).1.digits)), .int .i64 ((parseN s).1.exp)]) rfl rfl (by simp [one]) rfl (Nat.le_of_ble_eq_true rfl) rfl ?_
 clear hF; rintro w hF -
 replace hF : FR w0 [] [(b2, .cells #[.bool ((parseN s).1.neg), .string (bs ((parseN s).1.digits)), .int .i64 ((parseN s).1.exp)] 63), (b1, .cells #[.bool ((parseN s).1.neg), .string (bs ((parseN s).1.digits)), .int .i64 ((parseN s).1.exp)] 63)] w := hF
 refine ⟨hF.sub (.cons_cons _ (.cons _ .slnil)), ?_⟩
 refine f_free rfl (v := .bool (decide ((textN (parseN s).1 : Str) = s))) (fun w hC => x_assign rfl) (d_nil (e_seq ?_))
 refine c_ret (e_ret (post_ret (res_ct rfl (l := [.bool ((parseN s).1.neg), .string (bs ((parseN s).1.digits)), .int .i64 ((parseN s).1.exp)]) rfl Tryz.isAgg63 Tryz.sizeOf63 rfl (hF.cellsAll 1 rfl) (v := .bool (decide ((textN (parseN s).1 : Str) = s))) rfl) ?_))
 exact ⟨by simp_all [decimalB, numV], hF.same⟩
 refine f_off rfl ?_
 refine f_off rfl ?_
 refine f_skip rfl ?_ (hF.sub (.cons_cons _ (.cons _ .slnil)))
 refine f_off rfl ?_
 refine f_free rfl (v := .bool false) (fun w hC => x_pickf rfl rfl) ?_
 refine f_store rfl 1 (l := [.bool ((parseN s).1.neg), .string (bs ((parseN s).1.digits)), .int .i64 ((parseN s).1.exp)]) (cs' := #[.bool ((parseN s).1.neg), .string (bs ((parseN s).1.digits)), .int .i64 ((parseN s).1.exp)]) hF Tryz.sizeOf63 rfl (v := .agg #[.bool ((parseN s).1.neg), .string (bs ((parseN s).1.digits)), .int .i64 ((parseN s).1.exp)]) rfl rfl (by simp [one]) rfl (Nat.le_of_ble_eq_true rfl) rfl ?_
 clear hF; rintro w hF -
 replace hF : FR w0 [] [(b2, .cells #[.bool ((parseN s).1.neg), .string (bs ((parseN s).1.digits)), .int .i64 ((parseN s).1.exp)] 63), (b1, .cells #[.bool ((parseN s).1.neg), .string (bs ((parseN s).1.digits)), .int .i64 ((parseN s).1.exp)] 63)] w := hF
 refine ⟨hF.sub (.cons_cons _ (.cons _ .slnil)), ?_⟩
 refine f_free rfl (v := .bool false) (fun w hC => x_assign rfl) (d_nil (e_seq ?_))
 refine c_ret (e_ret (post_ret (res_ct rfl (l := [.bool ((parseN s).1.neg), .string (bs ((parseN s).1.digits)), .int .i64 ((parseN s).1.exp)]) rfl Tryz.isAgg63 Tryz.sizeOf63 rfl (hF.cellsAll 1 rfl) (v := .bool false) rfl) ?_))
 exact ⟨by simp_all [decimalB, numV], hF.same⟩
end Go.Scarf
namespace Go.Scarf
open Go.RowKit Go.Proofs
def dgt (s : Str) (i : Nat) : Int := if i < s.length then bZ s i else 48
theorem dgt_ge {s : Str} (h : s.all isDig = true) (i : Nat) : 48 ≤ dgt s i ∧ dgt s i ≤ 57 := by
  unfold dgt
  split
  · rename_i hi
    have := List.all_eq_true.1 h s[i] (List.getElem_mem hi)
    unfold isDig at this
    simp only [Bool.and_eq_true, decide_eq_true_eq] at this
    rw [← bZ_at hi]
    omega
  · omega
theorem all_cons {c : UInt8} {s : Str} (h : (c :: s).all isDig = true) : isDig c = true ∧ s.all isDig = true := by simpa using h
theorem right_parts {x : Num} (h : rightN x = true) (hd : x.digits ≠ []) : x.digits.all isDig = true ∧ ¬ bZ x.digits (x.digits.length - 1) = 48 := by
  have h0 : ¬ x = Num.zero := by rintro rfl; exact hd rfl
  unfold rightN at h
  simp only [Bool.or_eq_true, Bool.and_eq_true, decide_eq_true_eq] at h
  rcases h with h | h
  · exact absurd h h0
  · refine ⟨digs_all h.1.1.1.1.1, ?_⟩
    have hl : x.digits.length - 1 < x.digits.length := by have := List.length_pos_iff.2 hd; omega
    intro e
    rw [← bZ_at hl] at e
    exact h.1.1.2 (by rw [getLast?_get hl, u8_48.1 e])
end Go.Scarf
namespace Go.Scarf
open Go.RowKit Go.Proofs
def vN (acc : Nat) (l : Str) : Nat := l.foldl (fun a c => a * 10 + (c.toNat - 48)) acc
theorem vN_cons (acc : Nat) (c : UInt8) (l : Str) : vN acc (c :: l) = vN (acc * 10 + (c.toNat - 48)) l := by unfold vN; rw [List.foldl_cons]
theorem vN_ge (l : Str) : ∀ acc : Nat, acc ≤ vN acc l := by
  induction l with
  | nil => exact fun acc => Nat.le_refl _
  | cons c l ih =>
    intro acc
    rw [vN_cons]
    have := ih (acc * 10 + (c.toNat - 48))
    omega
theorem isDig_rng {c : UInt8} (h : isDig c = true) : 48 ≤ c.toNat ∧ c.toNat ≤ 57 := by
  unfold isDig at h
  simpa using h
theorem vN_exp : ∀ (l : Str) (acc : Nat), l.all isDig = true → ((vN acc l : Nat) : Int) = l.foldl (fun a c => 10 * a + ((c.toNat : Int) - 48)) (acc : Int)
  | [], _, _ => rfl
  | c :: l, acc, h => by
    obtain ⟨hc, hl⟩ := all_cons h
    have := isDig_rng hc
    rw [vN_cons, vN_exp l _ hl, List.foldl_cons]
    congr 1
    omega
theorem vN_zero {l : Str} (h : l.all isDig = true) : ((vN 0 l : Nat) : Int) = expVal l := vN_exp l 0 h
theorem uintM : ∀ (l : Str) (acc : Nat), l.all isDig = true → acc ≤ 18446744073709551615 → Lib.parseUintM 18446744073709551615 acc l = if vN acc l ≤ 18446744073709551615 then .ok (vN acc l) else .range
  | [], acc, _, h => by rw [show vN acc [] = acc from rfl, if_pos h]; rfl
  | c :: l, acc, h, ha => by
    obtain ⟨hc, hl⟩ := all_cons h
    have r := isDig_rng hc
    rw [Lib.parseUintM, if_pos r, vN_cons]
    have hg := vN_ge l (acc * 10 + (c.toNat - 48))
    by_cases h1 : 1844674407370955162 ≤ acc
    · rw [if_pos h1, if_neg (by omega)]
    · rw [if_neg h1]
      by_cases h2 : 18446744073709551615 < acc * 10 + (c.toNat - 48)
      · rw [if_pos h2, if_neg (by omega)]
      · rw [if_neg h2]; exact uintM l _ hl (by omega)
theorem uint64 {l : Str} (h : l.all isDig = true) (hne : l ≠ []) : Lib.parseUintB 64 l = if vN 0 l ≤ 18446744073709551615 then .ok (vN 0 l) else .range := by
  rw [Lib.parseUintB, if_neg hne]
  exact uintM l 0 h (by omega)
theorem pI_plain {l : Str} (h : l.all isDig = true) (hne : l ≠ []) : (pI l).2 = decide (expVal l ≤ 9223372036854775807) ∧ (expVal l ≤ 9223372036854775807 → (pI l).1 = expVal l) := by
  have hu := uint64 h hne
  rw [← vN_zero h]
  match l, hne with
  | c :: r, _ =>
    have hc := isDig_rng (all_cons h).1
    have hp := Lib.parseIntB_plain 64 c r (by omega) (by omega)
    rw [hu] at hp
    generalize vN 0 (c :: r) = n at *
    unfold pI
    rw [hp]
    by_cases h1 : n ≤ 18446744073709551615
    · rw [if_pos h1, Lib.signlessC]
      by_cases h2 : 9223372036854775808 ≤ n
      · rw [if_pos h2]; exact ⟨(decide_eq_false (by omega)).symm, fun h => absurd h (by omega)⟩
      · rw [if_neg h2]; exact ⟨(decide_eq_true (by omega)).symm, fun _ => rfl⟩
    · rw [if_neg h1]; exact ⟨(decide_eq_false (by omega)).symm, fun h => absurd h (by omega)⟩
theorem pI_minus {l : Str} (h : l.all isDig = true) (hne : l ≠ []) : (pI (45 :: l)).2 = decide (expVal l ≤ 9223372036854775808) ∧ (expVal l ≤ 9223372036854775808 → (pI (45 :: l)).1 = - expVal l) := by
  have hu := uint64 h hne
  rw [← vN_zero h]
  have hp := Lib.parseIntB_minus 64 l
  rw [hu] at hp
  generalize vN 0 l = n at *
  unfold pI
  rw [hp]
  by_cases h1 : n ≤ 18446744073709551615
  · rw [if_pos h1, Lib.signedC]
    by_cases h2 : 9223372036854775808 < n
    · rw [if_pos h2]; exact ⟨(decide_eq_false (by omega)).symm, fun h => absurd h (by omega)⟩
    · rw [if_neg h2]; exact ⟨(decide_eq_true (by omega)).symm, fun _ => rfl⟩
  · rw [if_neg h1]; exact ⟨(decide_eq_false (by omega)).symm, fun h => absurd h (by omega)⟩
def wholeT (x : Num) : Str := x.digits ++ Lib.repeatL [48] x.exp.toNat
theorem whole_len (x : Num) : (wholeT x).length = x.digits.length + x.exp.toNat := by rw [wholeT, List.length_append, repeatL_len]
theorem rep_all : ∀ n : Nat, (Lib.repeatL [48] n).all isDig = true
  | 0 => rfl
  | n + 1 => by
    have h := rep_all n
    simp only [Lib.repeatL, List.all_append, h, Bool.and_true]
    decide
theorem rep_48 : ∀ n : Nat, (Lib.repeatL [48] n).all (fun c => c == 48) = true
  | 0 => rfl
  | n + 1 => by
    have h := rep_48 n
    simp only [Lib.repeatL, List.all_append, h, Bool.and_true]
    decide
theorem whole_at {x : Num} {j : Nat} (h : j < (wholeT x).length) : (((wholeT x)[j].toNat : Nat) : Int) = dgt x.digits j := by
  unfold dgt
  by_cases hj : j < x.digits.length
  · rw [if_pos hj, ← bZ_at hj]
    simp only [wholeT]
    rw [List.getElem_append_left hj]
  · rw [if_neg hj]
    simp only [wholeT]
    rw [List.getElem_append_right (by omega)]
    have := List.all_eq_true.1 (rep_48 x.exp.toNat) _ (List.getElem_mem (show j - x.digits.length < (Lib.repeatL [48] x.exp.toNat).length by rw [repeatL_len]; rw [whole_len] at h; omega))
    rw [beq_iff_eq.1 this]
    rfl
theorem whole_step {x : Num} {j : Nat} (h : j < (wholeT x).length) : expVal ((wholeT x).take (j + 1)) = 10 * expVal ((wholeT x).take j) + (dgt x.digits j - 48) := by
  rw [expVal_take _ j h, whole_at h]
theorem exp_mono {s : Str} (hs : s.all isDig = true) : ∀ k, ∀ j, j + k = s.length → expVal (s.take j) ≤ expVal s
  | 0, j, h => by rw [List.take_of_length_le (by omega)]; exact Int.le_refl _
  | k + 1, j, h => by
    have h1 := exp_mono hs k (j + 1) (by omega)
    have hj : j < s.length := by omega
    rw [expVal_take s j hj] at h1
    have h2 := isDig_rng (List.all_eq_true.1 hs s[j] (List.getElem_mem hj))
    have h3 := (expVal_bound (s.take j) (all_take j hs)).1
    omega
theorem intT_eq (x : Num) : intT x = if x.neg = true then 45 :: wholeT x else wholeT x := rfl
theorem whole_digs {x : Num} (h : rightN x = true) : (wholeT x).all isDig = true := by
  rw [wholeT, List.all_append, rep_all, Bool.and_true]
  by_cases hd : x.digits = []
  · rw [hd]; rfl
  · exact (right_parts h hd).1
theorem whole_nil {x : Num} (h : rightN x = true) (hn : wholeT x = []) : x.neg = false := by
  have : x.digits = [] := by have := congrArg List.length hn; rw [whole_len, List.length_nil] at this; exact List.eq_nil_of_length_eq_zero (by omega)
  have := right_digits h this
  subst this; rfl
theorem int_bad {x : Num} (h : rightN x = false ∨ x.exp < 0 ∨ 19 < (x.digits.length : Int) + x.exp) : intN x = (0, false) := by rw [intN_eq, if_pos h]
theorem int_neg {x : Num} (h : ¬ (rightN x = false ∨ x.exp < 0 ∨ 19 < (x.digits.length : Int) + x.exp)) (hn : x.neg = true) : intN x = if expVal (wholeT x) ≤ 9223372036854775808 then (- expVal (wholeT x), true) else (0, false) := by
  have hr : rightN x = true := by cases hh : rightN x with | true => rfl | false => exact absurd (.inl hh) h
  have hne : wholeT x ≠ [] := fun e => by have := whole_nil hr e; rw [this] at hn; cases hn
  obtain ⟨p1, p2⟩ := pI_minus (whole_digs hr) hne
  have e : intT x = 45 :: wholeT x := by rw [intT_eq, if_pos hn]
  rw [intN_eq, if_neg h, e, if_neg (by simp), p1]
  by_cases hv : expVal (wholeT x) ≤ 9223372036854775808
  · rw [if_pos hv, if_neg (by rw [decide_eq_true hv]; decide), p2 hv]
  · rw [if_neg hv, if_pos (by rw [decide_eq_false hv])]
theorem int_pos {x : Num} (h : ¬ (rightN x = false ∨ x.exp < 0 ∨ 19 < (x.digits.length : Int) + x.exp)) (hn : x.neg = false) : intN x = if expVal (wholeT x) ≤ 9223372036854775807 then (expVal (wholeT x), true) else (0, false) := by
  have hr : rightN x = true := by cases hh : rightN x with | true => rfl | false => exact absurd (.inl hh) h
  have e : intT x = wholeT x := by rw [intT_eq, if_neg (by rw [hn]; decide)]
  rw [intN_eq, if_neg h, e]
  by_cases hne : wholeT x = []
  · rw [if_pos hne, hne]; rfl
  · obtain ⟨p1, p2⟩ := pI_plain (whole_digs hr) hne
    rw [if_neg hne, p1]
    by_cases hv : expVal (wholeT x) ≤ 9223372036854775807
    · rw [if_pos hv, if_neg (by rw [decide_eq_true hv]; decide), p2 hv]
    · rw [if_neg hv, if_pos (by rw [decide_eq_false hv])]
theorem int_over {x : Num} (h : ¬ (rightN x = false ∨ x.exp < 0 ∨ 19 < (x.digits.length : Int) + x.exp)) {j : Nat} (hj : j ≤ (wholeT x).length) (hv : 9223372036854775808 < expVal ((wholeT x).take j)) : intN x = (0, false) := by
  have hr : rightN x = true := by cases hh : rightN x with | true => rfl | false => exact absurd (.inl hh) h
  have := exp_mono (whole_digs hr) ((wholeT x).length - j) j (by omega)
  cases hn : x.neg with
  | true => rw [int_neg h hn, if_neg (by omega)]
  | false => rw [int_pos h hn, if_neg (by omega)]
theorem tdiv_over (d : Int) (h0 : 0 ≤ d) (h9 : d ≤ 9) : (-9223372036854775808 + d).tdiv 10 = -((9223372036854775808 - d) / 10) := by
  rw [show -9223372036854775808 + d = -(9223372036854775808 - d) by omega, Int.neg_tdiv, Int.tdiv_eq_ediv_of_nonneg (by omega)]
set_option maxHeartbeats 4000000 in
set_option maxRecDepth 10000 in
theorem rint_c (x : Num) (hl : x.digits.length ≤ 140737488355328) (w0 : World) : Calls Tryz.prog 87 #[numV x] w0 (Ret fun v w' => v = .tuple #[.int .i64 (intN x).1, .bool (intN x).2] ∧ Same [] w0 w') := by
 refine calls_start Tryz.func87 rfl Tryz.ntmps87 (Nat.le_of_ble_eq_true rfl) (args_1 _) ?_
 have hF := FR.start w0 []
 refine c_seq (c_region ?_)
 refine o_box (v := .agg #[.bool (x.neg), .string (bs (x.digits)), .int .i64 (x.exp)]) (cs := #[.bool (x.neg), .string (bs (x.digits)), .int .i64 (x.exp)]) hF rfl rfl ?_
 clear hF; rintro b1 w hb1 hF -
 refine o_val (x_assign rfl) (o_val (x_assign rfl) (o_nil (e_seq (c_seq (c_region (o_val (v := .agg #[.bool (x.neg), .string (bs (x.digits)), .int .i64 (x.exp)]) (x_loadS (l := [.bool (x.neg), .string (bs (x.digits)), .int .i64 (x.exp)]) Tryz.isAgg63 Tryz.sizeOf63 rfl rfl (hF.cellsAll 0 rfl)) ?_))))))
 refine o_call (rright_c x hl _) (x_call1 en_113 rfl rfl) ?_
 rintro _ w ⟨rfl, hE⟩
 replace hF := hF.ext hE
 clear hE
 refine o_val (x_assign rfl) (o_nil (e_seq (c_seq (c_seq (c_region (o_val (x_move rfl) (o_val (v := .bool (!(rightN x))) (x_not rfl) (o_val (x_move rfl) ?_))))))))
 refine o_split (d := 12) (b := !(rightN x)) rfl (fun hg0 => ?_) (fun hg0 => ?_)
 refine o_off (o_off (o_off (o_val (x_pickt rfl rfl) (o_val (x_move rfl) (o_off (o_off (o_off (o_off (o_off (o_off (o_off (o_val (x_pickt rfl rfl) (o_nil ?_)))))))))))))
 refine e_seq (c_ift rfl (c_seq (c_region (o_val (x_assign rfl) (o_val (x_assign rfl) (o_nil (e_seq ?_)))))))
 refine c_ret (e_ret (post_ret (res_2 (v := .int .i64 (0)) (x := .bool false) rfl rfl rfl) ?_))
 exact ⟨by rw [int_bad (.inl (by simpa using hg0))], hF.same⟩
 refine o_val (v := .pointer (some ⟨b1, 2, none⟩)) (x_fieldAddrO fa_63_2 rfl) (o_val (v := .int .i64 (x.exp)) (x_load Tryz.isAgg3 rfl (hF.cell 0 rfl rfl)) (o_val (v := .bool (decide ((x.exp : Int) < (0 : Int)))) (x_lss rfl rfl) (o_val (x_pickf rfl rfl) (o_val (x_move rfl) ?_))))
 refine o_splitd (d := 17) (p := (x.exp : Int) < (0 : Int)) rfl (fun hg1 => ?_) (fun hg1 => ?_)
 refine o_off (o_off (o_off (o_off (o_off (o_off (o_off (o_val (x_pickt rfl rfl) (o_nil (e_seq (c_ift rfl (c_seq (c_region (o_val (x_assign rfl) ?_)))))))))))))
 refine o_val (x_assign rfl) (o_nil (e_seq ?_))
 refine c_ret (e_ret (post_ret (res_2 (v := .int .i64 (0)) (x := .bool false) rfl rfl rfl) ?_))
 exact ⟨by rw [int_bad (.inr (.inl hg1))], hF.same⟩
 refine o_val (v := .pointer (some ⟨b1, 1, none⟩)) (x_fieldAddrO fa_63_1 rfl) (o_val (v := .string (bs (x.digits))) (x_load Tryz.isAgg9 rfl (hF.cell 0 rfl rfl)) (o_val (v := .int .i64 ((((x.digits) : Str).length : Int))) (x_len_string Tryz.underlying9 rfl) (o_val (v := .pointer (some ⟨b1, 2, none⟩)) (x_fieldAddrO fa_63_2 rfl) (o_val (v := .int .i64 (x.exp)) (x_load Tryz.isAgg3 rfl (hF.cell 0 rfl rfl)) ?_))))
 have hrl := rightN_len (x := x) (by simp_all)
 refine o_val (v := .int .i64 ((x.digits.length : Int) + x.exp)) (x_add rfl rfl (wrap_id (by omega) (by omega))) (o_val (v := .bool (decide ((19 : Int) < ((x.digits.length : Int) + x.exp : Int)))) (x_gtr rfl rfl) (o_val (x_pickf rfl rfl) (o_nil (e_seq ?_))))
 refine c_splitd (d := 25) (p := (19 : Int) < ((x.digits.length : Int) + x.exp : Int)) rfl (fun hc0 => ?_) (fun hc0 => ?_)
 refine c_ift rfl (c_seq (c_region (o_val (x_assign rfl) (o_val (x_assign rfl) (o_nil (e_seq ?_))))))
 refine c_ret (e_ret (post_ret (res_2 (v := .int .i64 (0)) (x := .bool false) rfl rfl rfl) ?_))
 exact ⟨by rw [int_bad (.inr (.inr (by omega)))], hF.same⟩
 refine c_iff rfl (c_skip (e_seq (c_seq (c_region (o_val (x_assign rfl) (o_nil (e_seq (c_seq (c_seq (c_region (o_val (x_assign rfl) (o_nil (e_seq ?_)))))))))))))
 refine c_block ?_
 have hrt : rightN x = true := by simp_all
 have hnb : ¬ (rightN x = false ∨ x.exp < 0 ∨ 19 < (x.digits.length : Int) + x.exp) := by rw [hrt]; simp; omega
 have hwd := whole_digs hrt
 have hdx : x.digits.all isDig = true := by rw [wholeT, List.all_append, Bool.and_eq_true] at hwd; exact hwd.1
 have hrl := rightN_len hrt
 refine c_loop (fun μ σ w => ∃ (j : Nat), ∃ (v : Int), μ = ((x.digits.length : Int) + x.exp - j).toNat ∧ ((j : Int) ≤ (x.digits.length : Int) + x.exp) ∧ (v = - expVal ((wholeT x).take j)) ∧ (v ≤ 0) ∧ (-9223372036854775808 ≤ v) ∧ AllEq σ [(1, .pointer (some ⟨b1, 0, none⟩)), (5, .int .i64 (v)), (6, .int .i64 ((j : Int)))] ∧ FR w0 [] [(b1, .cells #[.bool (x.neg), .string (bs (x.digits)), .int .i64 (x.exp)] 63)] w) _ ⟨0, 0, rfl, (by omega), (rfl), (by omega), (by omega), ⟨rfl, rfl, rfl, trivial⟩, hF⟩ ?_
 clear hF; rintro μ σ w ⟨j, v, rfl, hj, hv, hv0, hvm, hs, hF⟩
 refine Cg.slots hs ?_
 clear hs; intro σ
 refine c_seq (c_seq (c_region (o_val (x_move rfl) (o_val (v := .pointer (some ⟨b1, 1, none⟩)) (x_fieldAddrO fa_63_1 rfl) (o_val (v := .string (bs (x.digits))) (x_load Tryz.isAgg9 rfl (hF.cell 0 rfl rfl)) (o_val (v := .int .i64 ((((x.digits) : Str).length : Int))) (x_len_string Tryz.underlying9 rfl) (o_val (v := .pointer (some ⟨b1, 2, none⟩)) (x_fieldAddrO fa_63_2 rfl) (o_val (v := .int .i64 (x.exp)) (x_load Tryz.isAgg3 rfl (hF.cell 0 rfl rfl)) (o_val (v := .int .i64 ((x.digits.length : Int) + x.exp)) (x_add rfl rfl (wrap_id (by omega) (by omega))) (o_val (v := .bool (decide (((j : Int) : Int) < ((x.digits.length : Int) + x.exp : Int)))) (x_lss rfl rfl) (o_nil (e_seq ?_))))))))))))
 refine c_splitd (d := 33) (p := ((j : Int) : Int) < ((x.digits.length : Int) + x.exp : Int)) rfl (fun hc1 => ?_) (fun hc1 => ?_)
 refine c_ift rfl (c_skip (e_seq (c_seq (c_block (c_seq (c_region (o_val (x_assign rfl) (o_nil (e_seq (c_seq ?_))))))))))
 refine c_join (fun σ w => ∃ (d : Int), (d = dgt x.digits j - 48) ∧ AllEq σ [(1, .pointer (some ⟨b1, 0, none⟩)), (5, .int .i64 (v)), (6, .int .i64 ((j : Int))), (7, .int .i64 (d))] ∧ FR w0 [] [(b1, .cells #[.bool (x.neg), .string (bs (x.digits)), .int .i64 (x.exp)] 63)] w) ?_ ?_
 refine c_seq (c_region (o_val (x_move rfl) (o_val (v := .pointer (some ⟨b1, 1, none⟩)) (x_fieldAddrO fa_63_1 rfl) (o_val (v := .string (bs (x.digits))) (x_load Tryz.isAgg9 rfl (hF.cell 0 rfl rfl)) (o_val (v := .int .i64 ((((x.digits) : Str).length : Int))) (x_len_string Tryz.underlying9 rfl) (o_val (v := .bool (decide (((j : Int) : Int) < ((((x.digits) : Str).length : Int) : Int)))) (x_lss rfl rfl) (o_nil (e_seq ?_))))))))
 refine c_splitd (d := 40) (p := ((j : Int) : Int) < ((((x.digits) : Str).length : Int) : Int)) rfl (fun hc2 => ?_) (fun hc2 => ?_)
 refine c_ift rfl (c_region (o_val (v := .pointer (some ⟨b1, 1, none⟩)) (x_fieldAddrO fa_63_1 rfl) (o_val (v := .string (bs (x.digits))) (x_load Tryz.isAgg9 rfl (hF.cell 0 rfl rfl)) (o_val (x_move rfl) ?_))))
 refine o_val (v := .int .u8 (bZ (x.digits) j)) (by rw [← bZ_at (s := x.digits) (p := j) (by omega)]; exact x_index j Tryz.underlying9 rfl rfl (by omega)) ?_
 refine o_val (v := .int .u8 (bZ x.digits j - 48)) (x_sub rfl rfl (by have := dgt_ge (s := x.digits) hdx j; unfold dgt at this; rw [if_pos (by omega)] at this; rw [IntKind.wrap_u8]; omega)) ?_
 refine o_val (v := .int .i64 (bZ x.digits j - 48)) (x_conv_int Tryz.underlying5 Tryz.underlying3 rfl (by have := bZ_rng x.digits j; exact wrap_id (by omega) (by omega))) ?_
 refine o_val (x_assign rfl) (o_nil ?_)
 · exact e_inv ⟨(bZ x.digits j - 48), (by unfold dgt; first | (rw [if_pos (by omega)]; done) | (rw [if_neg (by omega)]; rfl)), ⟨rfl, rfl, rfl, rfl, trivial⟩, hF⟩
 refine c_iff rfl (c_skip ?_)
 · exact e_inv ⟨(0), (by unfold dgt; first | (rw [if_pos (by omega)]; done) | (rw [if_neg (by omega)]; rfl)), ⟨rfl, rfl, rfl, rfl, trivial⟩, hF⟩
 clear hF; rintro σ w ⟨d, hd, hs, hF⟩
 refine Eg.slots hs ?_
 clear hs; intro σ
 have hdg := dgt_ge hdx j
 have hjw : j < (wholeT x).length := by rw [whole_len]; omega
 have hst := whole_step hjw
 refine e_seq (c_seq (c_seq (c_region (o_val (x_move rfl) (o_val (x_move rfl) (o_val (v := .int .i64 (-9223372036854775808 + d)) (x_add rfl rfl (wrap_id (by omega) (by omega))) (o_val (v := .int .i64 (-((9223372036854775808 - d) / 10))) (x_quo rfl rfl (by decide) (wrap_to (tdiv_over d (by omega) (by omega)) (by omega) (by omega))) (o_val (v := .bool (decide ((v : Int) < (-((9223372036854775808 - d) / 10) : Int)))) (x_lss rfl rfl) (o_nil (e_seq ?_))))))))))
 refine c_splitd (d := 51) (p := (v : Int) < (-((9223372036854775808 - d) / 10) : Int)) rfl (fun hc3 => ?_) (fun hc3 => ?_)
 refine c_ift rfl (c_seq (c_region (o_val (x_assign rfl) (o_val (x_assign rfl) (o_nil (e_seq ?_))))))
 refine c_ret (e_ret (post_ret (res_2 (v := .int .i64 (0)) (x := .bool false) rfl rfl rfl) ?_))
 exact ⟨by rw [int_over hnb (j := j + 1) (by omega) (by rw [hst]; omega)], hF.same⟩
 refine c_iff rfl (c_skip (e_seq (c_region (o_val (x_move rfl) (o_val (v := .int .i64 (10 * v)) (x_mul rfl rfl (wrap_id (by omega) (by omega))) (o_val (x_move rfl) (o_val (v := .int .i64 (10 * v - d)) (x_sub rfl rfl (wrap_id (by omega) (by omega))) (o_val (x_assign rfl) (o_nil (e_block (e_seq (c_region (o_val (x_move rfl) ?_)))))))))))))
 refine o_val (v := .int .i64 (((j + 1 : Nat) : Int))) (x_add rfl rfl (wrap_to (by omega) (by omega) (by omega))) (o_val (x_assign rfl) (o_nil ?_))
 refine e_inv ⟨_, ?_, j + 1, 10 * v - d, rfl, (by omega), (by rw [hst]; omega), (by omega), (by omega), ⟨rfl, rfl, rfl, trivial⟩, hF⟩
 omega
 refine c_iff rfl ?_
 refine c_exit (e_exit rfl ?_)
 refine e_seq (c_seq (c_seq (c_region (o_val (v := .pointer (some ⟨b1, 0, none⟩)) (x_fieldAddrO fa_63_0 rfl) (o_val (v := .bool (x.neg)) (x_load Tryz.isAgg4 rfl (hF.cell 0 rfl rfl)) (o_nil (e_seq ?_)))))))
 refine c_split (d := 57) (b := x.neg) rfl (fun hc4 => ?_) (fun hc4 => ?_)
 refine c_ift rfl (c_seq (c_region (o_val (x_move rfl) (o_val (x_assign rfl) (o_val (x_assign rfl) (o_nil (e_seq ?_)))))))
 refine c_ret (e_ret (post_ret (res_2 (v := .int .i64 (v)) (x := .bool true) rfl rfl rfl) ?_))
 have eT : (wholeT x).take j = wholeT x := List.take_of_length_le (by rw [whole_len]; omega)
 rw [eT] at hv
 exact ⟨by rw [int_neg hnb (by assumption), if_pos (by omega), hv], hF.same⟩
 refine c_iff rfl (c_skip (e_seq (c_seq (c_seq (c_region (o_val (x_move rfl) (o_val (v := .bool (decide ((v : Int) = ((-9223372036854775808) : Int)))) (x_eql rfl rfl) (o_nil (e_seq ?_)))))))))
 refine c_splitd (d := 60) (p := (v : Int) = ((-9223372036854775808) : Int)) rfl (fun hc5 => ?_) (fun hc5 => ?_)
 refine c_ift rfl (c_seq (c_region (o_val (x_assign rfl) (o_val (x_assign rfl) (o_nil (e_seq ?_))))))
 refine c_ret (e_ret (post_ret (res_2 (v := .int .i64 (0)) (x := .bool false) rfl rfl rfl) ?_))
 have eT : (wholeT x).take j = wholeT x := List.take_of_length_le (by rw [whole_len]; omega)
 rw [eT] at hv
 exact ⟨by rw [int_pos hnb (by assumption), if_neg (by omega)], hF.same⟩
 refine c_iff rfl (c_skip (e_seq (c_seq (c_region (o_val (x_move rfl) (o_val (v := .int .i64 (-v)) (x_neg rfl (wrap_to (by omega) (by omega) (by omega))) (o_val (x_assign rfl) (o_val (x_assign rfl) (o_nil (e_seq ?_))))))))))
 refine c_ret (e_ret (post_ret (res_2 (v := .int .i64 (-v)) (x := .bool true) rfl rfl rfl) ?_))
 have eT : (wholeT x).take j = wholeT x := List.take_of_length_le (by rw [whole_len]; omega)
 rw [eT] at hv
 exact ⟨by rw [int_pos hnb (by assumption), if_pos (by omega), hv, Int.neg_neg], hF.same⟩
end Go.Scarf
