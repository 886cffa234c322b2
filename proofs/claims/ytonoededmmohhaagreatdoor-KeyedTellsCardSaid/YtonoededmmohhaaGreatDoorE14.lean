/- A part of the proof. -/
import Derived.Test.YtonoededmmohhaaGreatDoorE12
import Derived.Test.YtonoededmmohhaaGreatDoorX4
set_option linter.all false
namespace Go.Scarf
open Go.RowKit Go.Proofs
def psG (m : Bool) (ind d : Nat) (k : Int) (ks : List Str) (xs : List Tree) : List Str := if k = 6 then memsS m ind xs ks (d + 1) else valsS m ind xs (d + 1)
def tG (m : Bool) (ind d : Nat) (k : Int) (ks : List Str) (xs : List Tree) (j : Nat) : Str := (if k = 6 then 123 else 91) :: joinS m ind d true ((psG m ind d k ks xs).take j)
theorem psG_len (m : Bool) (ind d : Nat) (k : Int) (ks : List Str) (xs : List Tree) : (psG m ind d k ks xs).length = xs.length := by
  unfold psG
  split
  · exact memsS_length _ _ _ _ _
  · rw [valsS_eq, List.length_map]
theorem join_takeG (m : Bool) (ind d : Nat) : ∀ (ps : List Str) (j : Nat) (h : j < ps.length) (b : Bool), joinS m ind d b (ps.take (j + 1)) = joinS m ind d b (ps.take j) ++ ((if b = true ∧ j = 0 then [] else [44]) ++ (lineS m ind (d + 1) ++ ps[j]))
  | p :: ps, 0, h, b => by cases b <;> simp [joinS]
  | p :: ps, j + 1, h, b => by
    have h1 : j < ps.length := by simpa using h
    rw [List.take_succ_cons, List.take_succ_cons, joinS, joinS, join_takeG m ind d ps j h1 false]
    simp
theorem join_leG (m : Bool) (ind d : Nat) : ∀ (ps : List Str) (j : Nat) (b : Bool), (joinS m ind d b (ps.take j)).length ≤ (joinS m ind d b ps).length
  | [], j, b => by simp
  | p :: ps, 0, b => by simp [joinS]
  | p :: ps, j + 1, b => by
    have := join_leG m ind d ps j false
    rw [List.take_succ_cons, joinS, joinS]
    simp only [List.length_append]
    omega
theorem tG_zero (m : Bool) (ind d : Nat) (k : Int) (ks : List Str) (xs : List Tree) : tG m ind d k ks xs 0 = [if k = 6 then 123 else 91] := by rw [tG, List.take_zero, joinS]
theorem tG_succ {m : Bool} {ind d : Nat} {k : Int} {ks : List Str} {xs : List Tree} {j : Nat} (h6 : k = 6 → ks.length = xs.length) (h : j < xs.length) :
    (k = 6 ∧ ∃ hk : j < ks.length, tG m ind d k ks xs (j + 1) = tG m ind d k ks xs j ++ ((if j = 0 then [] else [44]) ++ (lineS m ind (d + 1) ++ (qS ks[j] ++ ([58] ++ ((if m then [32] else []) ++ valS m ind xs[j] (d + 1))))))) ∨
    (¬ k = 6 ∧ tG m ind d k ks xs (j + 1) = tG m ind d k ks xs j ++ ((if j = 0 then [] else [44]) ++ (lineS m ind (d + 1) ++ valS m ind xs[j] (d + 1)))) := by
  have h1 : j < (psG m ind d k ks xs).length := by rw [psG_len]; exact h
  by_cases hk : k = 6
  · have hl : j < ks.length := by have := h6 hk; omega
    refine .inl ⟨hk, hl, ?_⟩
    have h2 : (psG m ind d k ks xs)[j] = qS ks[j] ++ ([58] ++ ((if m then [32] else []) ++ valS m ind xs[j] (d + 1))) := by
      have e : psG m ind d k ks xs = memsS m ind xs ks (d + 1) := if_pos hk
      rw [List.getElem_of_eq e, memsS_get m ind (d + 1) xs ks j h hl, memS]
    rw [tG, join_takeG m ind d _ j h1 true, h2, tG]
    simp
  · refine .inr ⟨hk, ?_⟩
    have h2 : (psG m ind d k ks xs)[j] = valS m ind xs[j] (d + 1) := by
      have e : psG m ind d k ks xs = valsS m ind xs (d + 1) := if_neg hk
      have e2 := valsS_eq m ind (d + 1) xs
      rw [List.getElem_of_eq (e.trans e2), List.getElem_map]
    rw [tG, join_takeG m ind d _ j h1 true, h2, tG]
    simp
theorem val_tG {m : Bool} {ind d : Nat} {k : Int} {t : Str} {ks : List Str} {xs : List Tree} (hk : k = 5 ∨ k = 6) : valS m ind (.node k t ks xs) d = tG m ind d k ks xs xs.length ++ ((if xs.length = 0 then [] else lineS m ind d) ++ [if k = 6 then 125 else 93]) := by
  have hl := psG_len m ind d k ks xs
  have hn : (psG m ind d k ks xs = []) ↔ xs.length = 0 := by rw [← hl]; exact List.length_eq_zero_iff.symm
  rw [tG, List.take_of_length_le (by omega)]
  rcases hk with rfl | rfl
  · rw [valS, if_neg (by omega), if_neg (by omega), if_pos rfl, itemsS]
    have e : psG m ind d 5 ks xs = valsS m ind xs (d + 1) := if_neg (by omega)
    have e5 : (if (5 : Int) = 6 then (123 : UInt8) else 91) = 91 := rfl
    have e6 : (if (5 : Int) = 6 then (125 : UInt8) else 93) = 93 := rfl
    rw [← e, e5, e6]
    by_cases h : xs.length = 0
    · rw [if_pos h, if_pos (hn.2 h)]; simp
    · rw [if_neg h, if_neg (fun q => h (hn.1 q))]; simp
  · rw [valS, if_neg (by omega), if_neg (by omega), if_neg (by omega), if_pos rfl, itemsS]
    have e : psG m ind d 6 ks xs = memsS m ind xs ks (d + 1) := if_pos rfl
    have e5 : (if (6 : Int) = 6 then (123 : UInt8) else 91) = 123 := rfl
    have e6 : (if (6 : Int) = 6 then (125 : UInt8) else 93) = 125 := rfl
    rw [← e, e5, e6]
    by_cases h : xs.length = 0
    · rw [if_pos h, if_pos (hn.2 h)]; simp
    · rw [if_neg h, if_neg (fun q => h (hn.1 q))]; simp
theorem tG_le {m : Bool} {ind d : Nat} {k : Int} {t : Str} {ks : List Str} {xs : List Tree} (hk : k = 5 ∨ k = 6) (j : Nat) : (tG m ind d k ks xs j).length + 1 ≤ (valS m ind (.node k t ks xs) d).length := by
  have h := congrArg List.length (val_tG (m := m) (ind := ind) (d := d) (t := t) (ks := ks) (xs := xs) hk)
  have h3 := join_leG m ind d (psG m ind d k ks xs) j true
  have h4 : (tG m ind d k ks xs xs.length).length = (joinS m ind d true (psG m ind d k ks xs)).length + 1 := by rw [tG, List.take_of_length_le (by rw [psG_len]; exact Nat.le_refl _)]; rfl
  simp only [List.length_append, List.length_cons, List.length_nil, h4] at h
  rw [tG]
  simp only [List.length_cons]
  omega
theorem repL_len (n : Nat) : (Lib.repeatL [32] n).length = n := by
  induction n with
  | zero => rfl
  | succ n ih => simp [Lib.repeatL, ih]; try omega
def izOf (m : Bool) (ind : Nat) : Int := if m then (ind : Int) else -1
def RTextC (x : Tree) : Prop := ∀ (m : Bool) (ind d : Nat) S w0 cs, Rep S w0 (treeD x) cs → allT rnodeB x = true → maxL x ≤ 16777216 → ind * (d + depthT x) ≤ 1000000000 → d + depthT x ≤ 1000000000 → (valS m ind x d).length ≤ 4398046511104 →
  Calls Tryz.prog 51 #[.agg cs.toArray, .int .i64 (izOf m ind), .int .i64 (d : Nat)] w0 (Ret fun v w' => v = .string (bs (valS m ind x d)) ∧ Same [] w0 w')
theorem iz_true {m : Bool} {ind : Nat} (h : 0 ≤ izOf m ind) : m = true := by unfold izOf at h; cases m <;> simp_all
theorem iz_false {m : Bool} {ind : Nat} (h : ¬ 0 ≤ izOf m ind) : m = false := by unfold izOf at h; cases m <;> simp_all
theorem mul_iz {m : Bool} {ind d : Nat} (hm : m = true) (hb : ind * d ≤ 1000000000) : IntKind.i64.wrap (izOf m ind * ((d : Nat) : Int)) = ((ind * d : Nat) : Int) := by
  subst hm
  have e : izOf true ind = ((ind : Nat) : Int) := rfl
  rw [e]
  exact wrap_to (by simp) (by omega) (by omega)
theorem getD_at {l : List Str} {j : Nat} (h : j < l.length) : l.getD j [] = l[j] := by simp [List.getD, h]
def kG (m : Bool) (k : Int) (ks : List Str) (j : Nat) : Str := if k = 6 then qS (ks.getD j []) ++ ([58] ++ (if m then [32] else [])) else []
theorem tG_next {m : Bool} {ind d : Nat} {k : Int} {ks : List Str} {xs : List Tree} {j : Nat} (h6 : k = 6 → ks.length = xs.length) (h : j < xs.length) :
    tG m ind d k ks xs (j + 1) = tG m ind d k ks xs j ++ ((if j = 0 then [] else [44]) ++ (lineS m ind (d + 1) ++ (kG m k ks j ++ valS m ind xs[j] (d + 1)))) := by
  rcases tG_succ (m := m) (ind := ind) (d := d) h6 h with ⟨hk, hj, e⟩ | ⟨hk, e⟩
  · rw [e, kG, if_pos hk, getD_at hj]; simp
  · rw [e, kG, if_neg hk]; simp
theorem line_len (m : Bool) (ind d : Nat) : (lineS m ind d).length ≤ 1 + ind * d := by
  rw [lineS]; split
  · simp [repL_len]; omega
  · simp
theorem rnode_kind {k : Int} {t : Str} {ks : List Str} {xs : List Tree} (h : rnodeB (.node k t ks xs) = true) : 1 ≤ k ∧ k ≤ 6 := by
  rcases rnode_cases h with ⟨h, _⟩ | ⟨h, _⟩ | ⟨h, _⟩ | ⟨h, _⟩ | ⟨h, _⟩ | ⟨h, _⟩ <;> omega
theorem rnode_six {k : Int} {t : Str} {ks : List Str} {xs : List Tree} (h : rnodeB (.node k t ks xs) = true) (hk : k = 6) : ks.length = xs.length := by
  rcases rnode_cases h with ⟨h, _⟩ | ⟨h, _⟩ | ⟨h, _⟩ | ⟨h, _⟩ | ⟨h, _⟩ | ⟨_, _, _, _, h⟩
  all_goals first | exact h | omega
set_option maxHeartbeats 4000000 in
set_option maxRecDepth 10000 in
theorem rtext_node (k : Int) (t : Str) (ks : List Str) (xs : List Tree) (ih : ∀ x ∈ xs, RTextC x) (m : Bool) (ind d : Nat) (S : Nat → Prop) (w0 : World) (A : Option Addr) (c : Nat) (B : Option Addr) (e : Nat) (hR : Rep S w0 (treeD (.node k t ks xs)) [.int .i64 (k), .string (bs (t)), .slice (A) (ks.length) (c), .slice (B) (xs.length) (e)]) (hK : Rep S w0 (strsD ks) [.slice A ks.length c]) (hX : Rep S w0 (.slice (treesD xs)) [.slice B xs.length e]) (hn : rnodeB (.node k t ks xs) = true ∧ ∀ x ∈ xs, allT rnodeB x = true) (hmt : t.length ≤ 16777216) (hmk : maxKs ks ≤ 16777216) (hmx : maxLs xs ≤ 16777216) (hd : ind * (d + (depthTs xs + 1)) ≤ 1000000000) (hd2 : d + (depthTs xs + 1) ≤ 1000000000) (hl : (valS m ind (.node k t ks xs) d).length ≤ 4398046511104) : Calls Tryz.prog 51 #[.agg #[.int .i64 (k), .string (bs (t)), .slice (A) (ks.length) (c), .slice (B) (xs.length) (e)], .int .i64 (izOf m ind), .int .i64 (d : Nat)] w0 (Ret fun v w' => v = .string (bs (valS m ind (.node k t ks xs) d)) ∧ Same [] w0 w') := by
 have hKl := hK.slice_len
 have hXl := hX.slice_len
 have hkk := rnode_kind hn.1
 have h6 : k = 6 → ks.length = xs.length := fun h => rnode_six hn.1 h
 have hbL1 : ind * (d + 1) ≤ 1000000000 := Nat.le_trans (Nat.mul_le_mul_left ind (by omega)) hd
 have hbL0 : ind * d ≤ 1000000000 := Nat.le_trans (Nat.mul_le_mul_left ind (by omega)) hd
 refine calls_start Tryz.func51 rfl Tryz.ntmps51 (Nat.le_of_ble_eq_true rfl) (args_3 _ _ _) ?_
 have hF := FR.start w0 []
 refine c_seq (c_region ?_)
 refine o_box (v := .agg #[.int .i64 (k), .string (bs (t)), .slice (A) (ks.length) (c), .slice (B) (xs.length) (e)]) (cs := #[.int .i64 (k), .string (bs (t)), .slice (A) (ks.length) (c), .slice (B) (xs.length) (e)]) hF rfl rfl ?_
 clear hF; rintro b1 w hb1 hF -
 refine o_val (x_assign rfl) (o_nil (e_seq (c_seq (c_seq (c_region (o_val (v := .pointer (some ⟨b1, 0, none⟩)) (x_fieldAddrO fa_32_0 rfl) (o_val (v := .int .i64 (k)) (x_load Tryz.isAgg3 rfl (hF.cell 0 rfl rfl)) (o_nil (e_seq (c_block (c_seq (c_region (o_val (v := .bool (decide ((k : Int) = (1 : Int)))) (x_eql rfl rfl) ?_)))))))))))))
 refine o_val (x_assign rfl) (o_nil (e_seq ?_))
 refine c_splitd (d := 17) (p := (k : Int) = (1 : Int)) rfl (fun hc0 => ?_) (fun hc0 => ?_)
 refine c_ift rfl (c_seq (c_region (o_val (x_assign rfl) (o_nil (e_seq ?_)))))
 refine c_ret (e_ret (post_ret (res_1 (v := .string (bs ([110, 117, 108, 108]))) rfl rfl) ?_))
 exact ⟨by rw [valS, if_pos (by omega)], hF.same⟩
 refine c_iff rfl (c_seq (c_seq (c_region (o_val (v := .bool (decide ((k : Int) = (2 : Int)))) (x_eql rfl rfl) (o_val (x_assign rfl) (o_nil (e_seq ?_)))))))
 refine c_splitd (d := 19) (p := (k : Int) = (2 : Int)) rfl (fun hc1 => ?_) (fun hc1 => ?_)
 refine c_ift rfl (c_skip (e_seq (c_ift rfl (c_seq (c_region (o_val (v := .pointer (some ⟨b1, 1, none⟩)) (x_fieldAddrO fa_32_1 rfl) (o_val (v := .string (bs (t))) (x_load Tryz.isAgg9 rfl (hF.cell 0 rfl rfl)) (o_val (x_assign rfl) (o_nil (e_seq ?_))))))))))
 refine c_ret (e_ret (post_ret (res_1 (v := .string (bs (t))) rfl rfl) ?_))
 exact ⟨by rw [valS, if_neg (by omega), if_neg (by omega), if_neg (by omega), if_neg (by omega)], hF.same⟩
 refine c_iff rfl (c_region (o_val (v := .bool (decide ((k : Int) = (3 : Int)))) (x_eql rfl rfl) (o_val (x_assign rfl) (o_nil (e_seq ?_)))))
 refine c_splitd (d := 19) (p := (k : Int) = (3 : Int)) rfl (fun hc2 => ?_) (fun hc2 => ?_)
 refine c_ift rfl (c_seq (c_region (o_val (v := .pointer (some ⟨b1, 1, none⟩)) (x_fieldAddrO fa_32_1 rfl) (o_val (v := .string (bs (t))) (x_load Tryz.isAgg9 rfl (hF.cell 0 rfl rfl)) (o_val (x_assign rfl) (o_nil (e_seq ?_)))))))
 refine c_ret (e_ret (post_ret (res_1 (v := .string (bs (t))) rfl rfl) ?_))
 exact ⟨by rw [valS, if_neg (by omega), if_neg (by omega), if_neg (by omega), if_neg (by omega)], hF.same⟩
 refine c_iff rfl (c_seq (c_region (o_val (v := .bool (decide ((k : Int) = (4 : Int)))) (x_eql rfl rfl) (o_val (x_assign rfl) (o_nil (e_seq ?_))))))
 refine c_splitd (d := 24) (p := (k : Int) = (4 : Int)) rfl (fun hc3 => ?_) (fun hc3 => ?_)
 refine c_ift rfl (c_seq (c_region (o_val (v := .pointer (some ⟨b1, 1, none⟩)) (x_fieldAddrO fa_32_1 rfl) (o_val (v := .string (bs (t))) (x_load Tryz.isAgg9 rfl (hF.cell 0 rfl rfl)) ?_))))
 refine o_call (rquote_c t (by omega) _) (x_call1 en_70 rfl rfl) ?_
 rintro _ w ⟨rfl, hE⟩
 replace hF := hF.ext hE
 clear hE
 refine o_val (x_move rfl) (o_val (x_extract rfl rfl) (o_val (x_extract rfl rfl) (o_val (x_assign rfl) (o_val (x_assign rfl) (o_nil (e_seq (c_seq (c_region (o_val (x_move rfl) (o_val (x_assign rfl) (o_nil (e_seq ?_))))))))))))
 refine c_ret (e_ret (post_ret (res_1 (v := .string (bs (qS t))) rfl rfl) ?_))
 exact ⟨by rw [valS, if_neg (by omega), if_pos (by omega)], hF.same⟩
 refine c_iff rfl (c_skip (e_block (e_seq (c_seq (c_region (o_val (x_assign rfl) (o_nil (e_seq (c_seq (c_region (o_val (x_assign rfl) (o_nil (e_seq ?_)))))))))))))
 have hk56 : k = 5 ∨ k = 6 := by omega
 refine c_seq ?_
 refine c_join (fun σ w => ∃ (o : UInt8), ∃ (c9 : UInt8), (o = if k = 6 then 123 else 91) ∧ (c9 = if k = 6 then 125 else 93) ∧ AllEq σ [(1, .int .i64 (izOf m ind)), (2, .int .i64 ((d : Int))), (3, .pointer (some ⟨b1, 0, none⟩)), (9, .string (bs ([o]))), (10, .string (bs ([c9])))] ∧ FR w0 [] [(b1, .cells #[.int .i64 (k), .string (bs (t)), .slice (A) (ks.length) (c), .slice (B) (xs.length) (e)] 32)] w) ?_ ?_
 refine c_seq (c_region (o_val (v := .pointer (some ⟨b1, 0, none⟩)) (x_fieldAddrO fa_32_0 rfl) (o_val (v := .int .i64 (k)) (x_load Tryz.isAgg3 rfl (hF.cell 0 rfl rfl)) (o_val (v := .bool (decide ((k : Int) = (6 : Int)))) (x_eql rfl rfl) (o_nil (e_seq ?_))))))
 refine c_splitd (d := 35) (p := (k : Int) = (6 : Int)) rfl (fun hc4 => ?_) (fun hc4 => ?_)
 refine c_ift rfl (c_seq (c_region (o_val (x_assign rfl) (o_nil (e_seq (c_region (o_val (x_assign rfl) (o_nil ?_))))))))
 exact e_inv ⟨(123), (125), (by first | (rw [if_pos (by omega)]) | (rw [if_neg (by omega)])), (by first | (rw [if_pos (by omega)]) | (rw [if_neg (by omega)])), ⟨rfl, rfl, rfl, rfl, rfl, trivial⟩, hF⟩
 refine c_iff rfl (c_skip ?_)
 exact e_inv ⟨(91), (93), (by first | (rw [if_pos (by omega)]) | (rw [if_neg (by omega)])), (by first | (rw [if_pos (by omega)]) | (rw [if_neg (by omega)])), ⟨rfl, rfl, rfl, rfl, rfl, trivial⟩, hF⟩
 clear hF; rintro σ w ⟨o, c9, ho, hc9, hs, hF⟩
 refine Eg.slots hs ?_
 clear hs; intro σ
 refine e_seq (c_seq (c_seq (c_region (o_val (v := .pointer (some ⟨b1, 3, none⟩)) (x_fieldAddrO fa_32_3 rfl) (o_val (v := .slice (B) (xs.length) (e)) (x_load Tryz.isAgg30 rfl (hF.cell 0 rfl rfl)) (o_val (v := .int .i64 ((xs.length : Nat))) (x_len_slice Tryz.underlying30 rfl) (o_val (v := .bool (decide (((xs.length : Nat) : Int) = (0 : Int)))) (x_eql rfl rfl) (o_nil (e_seq ?_)))))))))
 refine c_splitd (d := 39) (p := ((xs.length : Nat) : Int) = (0 : Int)) rfl (fun hc5 => ?_) (fun hc5 => ?_)
 refine c_ift rfl (c_seq (c_region (o_val (x_move rfl) (o_val (x_move rfl) ?_))))
 refine o_val (v := .string (bs (([o]) ++ ([c9])))) (x_cat rfl rfl (by (try simp only [List.length_append, List.length_cons, List.length_nil]); omega)) ?_
 refine o_val (x_assign rfl) (o_nil (e_seq ?_))
 refine c_ret (e_ret (post_ret (res_1 (v := .string (bs (([o]) ++ ([c9])))) rfl rfl) ?_))
 exact ⟨by rw [val_tG hk56, if_pos (by omega), show xs.length = 0 by omega, tG_zero, ho, hc9]; rfl, hF.same⟩
 refine c_iff rfl (c_skip (e_seq (c_seq (c_region (o_val (x_move rfl) (o_val (x_assign rfl) (o_nil (e_seq (c_seq (c_seq (c_region (o_val (x_assign rfl) (o_nil ?_)))))))))))))
 refine e_seq (c_block ?_)
 refine c_loop (fun μ σ w => ∃ (j : Nat), ∃ (s : Str), μ = xs.length - j ∧ (j ≤ xs.length) ∧ (s = tG m ind d k ks xs j) ∧ AllEq σ [(1, .int .i64 (izOf m ind)), (2, .int .i64 ((d : Int))), (3, .pointer (some ⟨b1, 0, none⟩)), (10, .string (bs ([c9]))), (11, .string (bs (s))), (12, .int .i64 ((j : Int)))] ∧ FR w0 [] [(b1, .cells #[.int .i64 (k), .string (bs (t)), .slice (A) (ks.length) (c), .slice (B) (xs.length) (e)] 32)] w) _ ⟨0, [o], rfl, (Nat.zero_le _), (by rw [tG_zero, ho]), ⟨rfl, rfl, rfl, rfl, rfl, rfl, trivial⟩, hF⟩ ?_
 clear hF; rintro μ σ w ⟨j, s, rfl, hj, hs, hs, hF⟩
 refine Cg.slots hs ?_
 clear hs; intro σ
 have hsl : s.length + 1 ≤ 4398046511104 := by rw [hs]; exact Nat.le_trans (tG_le hk56 j) hl
 refine c_seq (c_seq (c_region (o_val (x_move rfl) (o_val (v := .pointer (some ⟨b1, 3, none⟩)) (x_fieldAddrO fa_32_3 rfl) (o_val (v := .slice (B) (xs.length) (e)) (x_load Tryz.isAgg30 rfl (hF.cell 0 rfl rfl)) (o_val (v := .int .i64 ((xs.length : Nat))) (x_len_slice Tryz.underlying30 rfl) (o_val (v := .bool (decide (((j : Int) : Int) < ((xs.length : Nat) : Int)))) (x_lss rfl rfl) (o_nil (e_seq ?_)))))))))
 refine c_splitd (d := 48) (p := ((j : Int) : Int) < ((xs.length : Nat) : Int)) rfl (fun hc6 => ?_) (fun hc6 => ?_)
 have hjx : j < xs.length := by omega
 have hsj := tG_next (m := m) (ind := ind) (d := d) h6 hjx
 have hlj := tG_le (m := m) (ind := ind) (d := d) (t := t) (ks := ks) (xs := xs) hk56 (j + 1)
 have hls := congrArg List.length hsj
 simp only [List.length_append] at hls
 refine c_ift rfl (c_skip (e_seq (c_seq (c_block (c_seq ?_)))))
 refine c_join (fun σ w => ∃ (s1 : Str), (s1 = s ++ (if j = 0 then [] else [44])) ∧ AllEq σ [(1, .int .i64 (izOf m ind)), (2, .int .i64 ((d : Int))), (3, .pointer (some ⟨b1, 0, none⟩)), (10, .string (bs ([c9]))), (11, .string (bs (s1))), (12, .int .i64 ((j : Int)))] ∧ FR w0 [] [(b1, .cells #[.int .i64 (k), .string (bs (t)), .slice (A) (ks.length) (c), .slice (B) (xs.length) (e)] 32)] w) ?_ ?_
 refine c_seq (c_region (o_val (x_move rfl) (o_val (v := .bool (decide ((0 : Int) < ((j : Int) : Int)))) (x_gtr rfl rfl) (o_nil (e_seq ?_)))))
 refine c_splitd (d := 52) (p := (0 : Int) < ((j : Int) : Int)) rfl (fun hc7 => ?_) (fun hc7 => ?_)
 refine c_ift rfl (c_region (o_val (x_move rfl) ?_))
 refine o_val (v := .string (bs ((s) ++ ([44])))) (x_cat rfl rfl (by (try simp only [List.length_append, List.length_cons, List.length_nil]); omega)) ?_
 refine o_val (x_assign rfl) (o_nil ?_)
 exact e_inv ⟨((s) ++ ([44])), (by first | (rw [if_neg (by omega)]) | (rw [if_pos (by omega)]; simp)), ⟨rfl, rfl, rfl, rfl, rfl, rfl, trivial⟩, hF⟩
 refine c_iff rfl (c_skip ?_)
 exact e_inv ⟨(s), (by first | (rw [if_neg (by omega)]) | (rw [if_pos (by omega)]; simp)), ⟨rfl, rfl, rfl, rfl, rfl, rfl, trivial⟩, hF⟩
 clear hF; rintro σ w ⟨s1, hs1, hs, hF⟩
 refine Eg.slots hs ?_
 clear hs; intro σ
 have hl1 : s1.length ≤ s.length + 1 := by rw [hs1, List.length_append]; split <;> simp
 refine e_seq (c_seq ?_)
 refine c_join (fun σ w => ∃ (s2 : Str), (s2 = s1 ++ lineS m ind (d + 1)) ∧ AllEq σ [(1, .int .i64 (izOf m ind)), (2, .int .i64 ((d : Int))), (3, .pointer (some ⟨b1, 0, none⟩)), (10, .string (bs ([c9]))), (11, .string (bs (s2))), (12, .int .i64 ((j : Int)))] ∧ FR w0 [] [(b1, .cells #[.int .i64 (k), .string (bs (t)), .slice (A) (ks.length) (c), .slice (B) (xs.length) (e)] 32)] w) ?_ ?_
 refine c_seq (c_region (o_val (x_move rfl) (o_val (v := .bool (decide ((0 : Int) ≤ (izOf m ind : Int)))) (x_geq rfl rfl) (o_nil (e_seq ?_)))))
 refine c_splitd (d := 56) (p := (0 : Int) ≤ (izOf m ind : Int)) rfl (fun hc8 => ?_) (fun hc8 => ?_)
 have hm : m = true := iz_true (by assumption)
 refine c_ift rfl (c_region (o_val (x_move rfl) ?_))
 refine o_val (v := .string (bs ((s1) ++ ([10])))) (x_cat rfl rfl (by (try simp only [List.length_append, List.length_cons, List.length_nil]); omega)) ?_
 refine o_val (x_move rfl) (o_val (x_move rfl) (o_val (v := .int .i64 (((d + 1 : Nat) : Int))) (x_add rfl rfl (wrap_to (by omega) (by omega) (by omega))) (o_val (v := .int .i64 (((ind * (d + 1) : Nat) : Int))) (x_mul rfl rfl (mul_iz hm hbL1)) ?_)))
 refine o_call (blanks_c (ind * (d + 1)) (by omega) _) (x_call1 en_71 rfl rfl) ?_
 rintro _ w ⟨rfl, hE⟩
 replace hF := hF.ext hE
 clear hE
 refine o_val (v := .string (bs (((s1) ++ ([10])) ++ (Lib.repeatL [32] (ind * (d + 1)))))) (x_cat rfl rfl (by rw [repL_len]; (try simp only [List.length_append, List.length_cons, List.length_nil]); omega)) ?_
 refine o_val (x_assign rfl) (o_nil ?_)
 · exact e_inv ⟨(((s1) ++ ([10])) ++ (Lib.repeatL [32] (ind * (d + 1)))), (by first | (rw [lineS, if_pos hm]; simp; done) | (rw [lineS, hm]; simp; done)), ⟨rfl, rfl, rfl, rfl, rfl, rfl, trivial⟩, hF⟩
 have hm : m = false := iz_false (by assumption)
 refine c_iff rfl (c_skip ?_)
 · exact e_inv ⟨(s1), (by first | (rw [lineS, if_pos hm]; simp; done) | (rw [lineS, hm]; simp; done)), ⟨rfl, rfl, rfl, rfl, rfl, rfl, trivial⟩, hF⟩
 clear hF; rintro σ w ⟨s2, hs2, hs, hF⟩
 refine Eg.slots hs ?_
 clear hs; intro σ
 have hl2 : s2.length ≤ s1.length + 1 + ind * (d + 1) := by have := line_len m ind (d + 1); rw [hs2, List.length_append]; omega
 refine e_seq (c_seq ?_)
 refine c_join (fun σ w => ∃ (s3 : Str), (s3 = s2 ++ kG m k ks j) ∧ AllEq σ [(1, .int .i64 (izOf m ind)), (2, .int .i64 ((d : Int))), (3, .pointer (some ⟨b1, 0, none⟩)), (10, .string (bs ([c9]))), (11, .string (bs (s3))), (12, .int .i64 ((j : Int)))] ∧ FR w0 [] [(b1, .cells #[.int .i64 (k), .string (bs (t)), .slice (A) (ks.length) (c), .slice (B) (xs.length) (e)] 32)] w) ?_ ?_
 refine c_seq (c_region (o_val (v := .pointer (some ⟨b1, 0, none⟩)) (x_fieldAddrO fa_32_0 rfl) (o_val (v := .int .i64 (k)) (x_load Tryz.isAgg3 rfl (hF.cell 0 rfl rfl)) (o_val (v := .bool (decide ((k : Int) = (6 : Int)))) (x_eql rfl rfl) (o_nil (e_seq ?_))))))
 refine c_splitd (d := 67) (p := (k : Int) = (6 : Int)) rfl (fun hc9 => ?_) (fun hc9 => ?_)
 have hk6 : k = 6 := by omega
 have hjk : j < ks.length := by have := h6 hk6; omega
 have hql := qS_length ks[j]
 have hkm := maxKs_mem (List.getElem_mem hjk)
 refine c_ift rfl (c_seq (c_region (o_val (v := .pointer (some ⟨b1, 2, none⟩)) (x_fieldAddrO fa_32_2 rfl) (o_val (v := .slice (A) (ks.length) (c)) (x_load Tryz.isAgg22 rfl (hF.cell 0 rfl rfl)) (o_val (x_move rfl) ?_)))))
 obtain ⟨ad0, hA0, hk0, hx0⟩ := hK.str_elem (i := j) (by omega)
 refine o_val (v := .pointer (some (ad0.add (j * 1)))) (x_indexAddrA (i := (j : Int)) sl_22 rfl hA0 rfl (by omega) (by omega)) (o_val (v := .string (bs (ks[j]))) (x_load Tryz.isAgg9 rfl (hF.cell0 hk0)) ?_)
 refine o_call (rquote_c ks[j] (by have := maxKs_mem (List.getElem_mem hjk); omega) _) (x_call1 en_70 rfl rfl) ?_
 rintro _ w ⟨rfl, hE⟩
 replace hF := hF.ext hE
 clear hE
 refine o_val (x_move rfl) (o_val (x_extract rfl rfl) (o_val (x_extract rfl rfl) (o_val (x_assign rfl) (o_val (x_assign rfl) (o_nil (e_seq (c_seq (c_region (o_val (x_move rfl) (o_val (x_move rfl) ?_))))))))))
 refine o_val (v := .string (bs ((s2) ++ (qS ks[j])))) (x_cat rfl rfl (by (try simp only [List.length_append, List.length_cons, List.length_nil]); omega)) ?_
 refine o_val (v := .string (bs (((s2) ++ (qS ks[j])) ++ ([58])))) (x_cat rfl rfl (by (try simp only [List.length_append, List.length_cons, List.length_nil]); omega)) ?_
 refine o_val (x_assign rfl) (o_nil (e_seq (c_seq (c_region (o_val (x_move rfl) (o_val (v := .bool (decide ((0 : Int) ≤ (izOf m ind : Int)))) (x_geq rfl rfl) (o_nil (e_seq ?_))))))))
 refine c_splitd (d := 82) (p := (0 : Int) ≤ (izOf m ind : Int)) rfl (fun hc10 => ?_) (fun hc10 => ?_)
 have hm : m = true := iz_true (by assumption)
 refine c_ift rfl (c_region (o_val (x_move rfl) ?_))
 refine o_val (v := .string (bs ((((s2) ++ (qS ks[j])) ++ ([58])) ++ ([32])))) (x_cat rfl rfl (by (try simp only [List.length_append, List.length_cons, List.length_nil]); omega)) ?_
 refine o_val (x_assign rfl) (o_nil ?_)
 · exact e_inv ⟨((((s2) ++ (qS ks[j])) ++ ([58])) ++ ([32])), (by first | (rw [kG, if_pos hk6, getD_at hjk, hm]; simp; done) | (rw [kG, if_neg hk6]; simp; done)), ⟨rfl, rfl, rfl, rfl, rfl, rfl, trivial⟩, hF⟩
 have hm : m = false := iz_false (by assumption)
 refine c_iff rfl (c_skip ?_)
 · exact e_inv ⟨(((s2) ++ (qS ks[j])) ++ ([58])), (by first | (rw [kG, if_pos hk6, getD_at hjk, hm]; simp; done) | (rw [kG, if_neg hk6]; simp; done)), ⟨rfl, rfl, rfl, rfl, rfl, rfl, trivial⟩, hF⟩
 have hk6 : ¬ k = 6 := by omega
 refine c_iff rfl (c_skip ?_)
 · exact e_inv ⟨(s2), (by first | (rw [kG, if_pos hk6, getD_at hjk, hm]; simp; done) | (rw [kG, if_neg hk6]; simp; done)), ⟨rfl, rfl, rfl, rfl, rfl, rfl, trivial⟩, hF⟩
 clear hF; rintro σ w ⟨s3, hs3, hs, hF⟩
 refine Eg.slots hs ?_
 clear hs; intro σ
 have hl3 : s3.length + (valS m ind xs[j] (d + 1)).length = (tG m ind d k ks xs (j + 1)).length := by rw [hsj, hs3, hs2, hs1, hs]; simp only [List.length_append]; omega
 refine e_seq (c_region (o_val (x_move rfl) (o_val (v := .pointer (some ⟨b1, 3, none⟩)) (x_fieldAddrO fa_32_3 rfl) (o_val (v := .slice (B) (xs.length) (e)) (x_load Tryz.isAgg30 rfl (hF.cell 0 rfl rfl)) (o_val (x_move rfl) ?_)))))
 obtain ⟨ad1, cs1, hA1, hl1, hk1, hx1⟩ := hX.tree_elem (i := j) (by omega)
 have ho1 := hx1.one_
 refine o_val (v := .pointer (some (ad1.add (j * 4)))) (x_indexAddrA (i := (j : Int)) sl_30 rfl hA1 rfl (by omega) (by omega)) (o_val (v := .agg (List.toArray cs1)) (x_loadS (l := cs1) Tryz.isAgg32 Tryz.sizeOf32 rfl hl1 (hF.cells0 hk1)) (o_val (x_move rfl) (o_val (x_move rfl) (o_val (v := .int .i64 (((d + 1 : Nat) : Int))) (x_add rfl rfl (wrap_to (by omega) (by omega) (by omega))) ?_))))
 refine o_call (ih xs[j] (List.getElem_mem hjx) m ind (d + 1) _ _ cs1 (hF.rep hx1) (hn.2 _ (List.getElem_mem hjx)) (by have := maxLs_mem (List.getElem_mem hjx); omega) (by have h1 := depthTs_mem (List.getElem_mem hjx); exact Nat.le_trans (Nat.mul_le_mul_left ind (by omega)) hd) (by have h1 := depthTs_mem (List.getElem_mem hjx); omega) (by omega)) (x_call3 en_51 rfl rfl rfl rfl) ?_
 rintro _ w ⟨rfl, hE⟩
 replace hF := hF.ext hE
 clear hE
 refine o_val (v := .string (bs ((s3) ++ (valS m ind xs[j] (d + 1))))) (x_cat rfl rfl (by (try simp only [List.length_append, List.length_cons, List.length_nil]); omega)) ?_
 refine o_val (x_assign rfl) (o_nil (e_block (e_seq (c_region (o_val (x_move rfl) (o_val (v := .int .i64 (((j + 1 : Nat) : Int))) (x_add rfl rfl (wrap_to (by omega) (by omega) (by omega))) (o_val (x_assign rfl) (o_nil ?_))))))))
 refine e_inv ⟨_, ?_, j + 1, (s3) ++ (valS m ind xs[j] (d + 1)), rfl, (hjx), (by rw [hsj, hs3, hs2, hs1, hs]; simp), ⟨rfl, rfl, rfl, rfl, rfl, rfl, trivial⟩, hF⟩
 omega
 obtain rfl : j = xs.length := by omega
 refine c_iff rfl ?_
 refine c_exit (e_exit rfl ?_)
 refine e_seq (c_seq ?_)
 refine c_join (fun σ w => ∃ (s4 : Str), (s4 = s ++ lineS m ind d) ∧ AllEq σ [(10, .string (bs ([c9]))), (11, .string (bs (s4)))] ∧ FR w0 [] [(b1, .cells #[.int .i64 (k), .string (bs (t)), .slice (A) (ks.length) (c), .slice (B) (xs.length) (e)] 32)] w) ?_ ?_
 refine c_seq (c_region (o_val (x_move rfl) (o_val (v := .bool (decide ((0 : Int) ≤ (izOf m ind : Int)))) (x_geq rfl rfl) (o_nil (e_seq ?_)))))
 refine c_splitd (d := 97) (p := (0 : Int) ≤ (izOf m ind : Int)) rfl (fun hc11 => ?_) (fun hc11 => ?_)
 have hm : m = true := iz_true (by assumption)
 refine c_ift rfl (c_region (o_val (x_move rfl) ?_))
 refine o_val (v := .string (bs ((s) ++ ([10])))) (x_cat rfl rfl (by (try simp only [List.length_append, List.length_cons, List.length_nil]); omega)) ?_
 refine o_val (x_move rfl) (o_val (x_move rfl) (o_val (v := .int .i64 (((ind * d : Nat) : Int))) (x_mul rfl rfl (mul_iz hm hbL0)) ?_))
 refine o_call (blanks_c (ind * d) (by omega) _) (x_call1 en_71 rfl rfl) ?_
 rintro _ w ⟨rfl, hE⟩
 replace hF := hF.ext hE
 clear hE
 refine o_val (v := .string (bs (((s) ++ ([10])) ++ (Lib.repeatL [32] (ind * d))))) (x_cat rfl rfl (by rw [repL_len]; (try simp only [List.length_append, List.length_cons, List.length_nil]); omega)) ?_
 refine o_val (x_assign rfl) (o_nil ?_)
 · exact e_inv ⟨(((s) ++ ([10])) ++ (Lib.repeatL [32] (ind * d))), (by first | (rw [lineS, if_pos hm]; simp; done) | (rw [lineS, hm]; simp; done)), ⟨rfl, rfl, trivial⟩, hF⟩
 have hm : m = false := iz_false (by assumption)
 refine c_iff rfl (c_skip ?_)
 · exact e_inv ⟨(s), (by first | (rw [lineS, if_pos hm]; simp; done) | (rw [lineS, hm]; simp; done)), ⟨rfl, rfl, trivial⟩, hF⟩
 clear hF; rintro σ w ⟨s4, hs4, hs, hF⟩
 refine Eg.slots hs ?_
 clear hs; intro σ
 have hl4 : s4.length ≤ s.length + 1 + ind * d := by have := line_len m ind d; rw [hs4, List.length_append]; omega
 refine e_seq (c_seq (c_region (o_val (x_move rfl) (o_val (x_move rfl) ?_))))
 refine o_val (v := .string (bs ((s4) ++ ([c9])))) (x_cat rfl rfl (by (try simp only [List.length_append, List.length_cons, List.length_nil]); omega)) ?_
 refine o_val (x_assign rfl) (o_nil (e_seq ?_))
 refine c_ret (e_ret (post_ret (res_1 (v := .string (bs ((s4) ++ ([c9])))) rfl rfl) ?_))
 exact ⟨by rw [val_tG hk56, if_neg (by omega), hs4, hs, hc9]; simp, hF.same⟩
theorem rtext_all (x : Tree) : RTextC x := Tree.ind (Q := RTextC) (fun k t ks xs ih m ind d S w0 cs hR hn hm hd hd2 hl => by
  obtain ⟨A, c, B, e, rfl, hk, ht, hK, hX⟩ := hR.tree_inv
  rw [maxL] at hm
  rw [depthT] at hd hd2
  exact rtext_node k t ks xs ih m ind d S w0 A c B e hR hK hX (allT_node hn) (by omega) (by omega) (by omega) hd hd2 hl) x
end Go.Scarf
