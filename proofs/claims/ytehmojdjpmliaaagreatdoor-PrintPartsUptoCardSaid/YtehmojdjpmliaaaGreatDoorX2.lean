/- A part of the proof. -/
import Derived.Test.YtehmojdjpmliaaaGreatDoorC2
import Derived.Test.YtehmojdjpmliaaaGreatDoorC3
import Derived.Test.YtehmojdjpmliaaaGreatDoorP7
set_option linter.all false
namespace Go.Scarf
open Go.RowKit Go.Proofs
theorem run_boolL {P : Program} {ρ : Operand → Value} {o : Oper} {w w' : World} {b c : Bool} (h : (execOp ρ o).run P w = .ok (.value (.bool b)) w') (hb : b = c) : (execOp ρ o).run P w = .ok (.value (.bool c)) w' := by rw [h, hb]
theorem pret_err {x : Tree} {ind d : Int} (h : ¬ pretE x ind d = 0) : ¬ pretOk x ind d := fun hp => h (by rw [pretE, if_pos hp])
theorem pret_ok {x : Tree} {ind d : Int} (h : pretE x ind d = 0) : pretOk x ind d := Classical.byContradiction fun hp => by rw [pretE, if_neg hp] at h; cases h
theorem pret_no {x : Tree} {ind d : Int} (h : ¬ pretOk x ind d) : pretS x ind d = [] := by rw [pretS, if_neg h]
theorem pret_yes {x : Tree} {ind d : Int} (h : pretOk x ind d) : pretS x ind d = valS true ind.toNat x d.toNat := by rw [pretS, if_pos h]
theorem comp_err {x : Tree} (h : ¬ compE x ≠ 0) : rightB x = true := Classical.byContradiction fun hp => h (by rw [compE, if_neg hp]; decide)
theorem pret_short {x : Tree} {ind d : Int} (h : pretOk x ind d) (hm : maxL x ≤ 2048) : (pretS x ind d).length ≤ 1099511627776 := by
  rw [pret_yes h]
  obtain ⟨h1, h2, h3⟩ := h
  have a := right_depth h1
  have b := val_bound true ind.toNat (maxL x) 64 x d.toNat (Nat.le_refl _) (by omega)
  have c : sizeT x ≤ 4096 := open_size (right_open h1)
  have e : ind.toNat * 64 ≤ 8 * 64 := Nat.mul_le_mul_right _ (by omega)
  have f : sizeT x * (12 * maxL x + 40 + 2 * (ind.toNat * 64)) ≤ 4096 * (12 * 2048 + 40 + 2 * 512) := Nat.mul_le_mul c (by omega)
  omega
theorem pret_lines {x : Tree} {ind d : Int} (h : pretOk x ind d) : nl (pretS x ind d) + 2 ≤ 2 * sizeT x ∧ (nl (pretS x ind d) = 0 ↔ x.items = []) := by
  rw [pret_yes h]
  have h1 := h.1
  unfold rightB at h1
  rw [Bool.and_eq_true] at h1
  exact val_nl _ x h1.2 _
theorem pret_bare {x : Tree} {ind d : Int} (h : pretOk x ind d) : bareL false (pretS x ind d) = compS x := by
  rw [pret_yes h, bare_val true _ _ h.1, compS, if_pos h.1]
theorem nl_take {s : Str} {j n : Nat} (h : j < s.length) (hn : n = nl (s.take j)) : nl (s.take (j + 1)) = n + if s[j] = 10 then 1 else 0 := by
  rw [List.take_succ_eq_append_getElem h, nl_app, hn]
  congr 1
  unfold nl
  rw [List.count_singleton]
  by_cases e : s[j] = 10
  · simp [e]
  · simp [e]
set_option maxHeartbeats 4000000 in
set_option maxRecDepth 10000 in
theorem printLines_w0 (w0 : World) (hG : Gl w0) (k : Int) (t : Str) (ks : List Str) (xs : List Tree) (ind d : Int) (A : Option Addr) (c : Nat) (B : Option Addr) (e : Nat) (rx : Rep (fun _ => True) w0 (treeD (.node k t ks xs)) [.int .i64 (k), .string (bs (t)), .slice (A) (ks.length) (c), .slice (B) (xs.length) (e)]) (hxl : xs.length ≤ 9223372036854775807) : Calls Tryz.prog 4 #[.agg #[.int .i64 (k), .string (bs (t)), .slice (A) (ks.length) (c), .slice (B) (xs.length) (e)], .int .i64 ind, .int .i64 d] w0 (Ret fun v w' => v = .bool true ∧ Same [] w0 w') := by
  refine calls_start Tryz.func4 rfl Tryz.ntmps4 (Nat.le_of_ble_eq_true rfl) (args_3 _ _ _) ?_
  have hF := FR.start w0 []
  refine c_seq ?_
  refine c_region ?_
  refine o_box (v := .agg #[.int .i64 (k), .string (bs (t)), .slice (A) (ks.length) (c), .slice (B) (xs.length) (e)]) (cs := #[.int .i64 (k), .string (bs (t)), .slice (A) (ks.length) (c), .slice (B) (xs.length) (e)]) hF rfl rfl ?_
  clear hF; intro b1 w hb1 hF hE
  clear hE
  refine o_val (v := .bool false) (x_assign rfl) ?_
  refine o_nil ?_
  refine e_seq ?_
  refine c_seq ?_
  refine c_region ?_
  refine o_call (small8_c _ (hG.ext hF.same)) (x_call0 en_13 rfl) ?_
  rintro _ w ⟨rfl, hE⟩
  replace hF := hF.ext hE
  clear hE
  refine o_val (v := .bool true) (x_assign rfl) ?_
  refine o_nil ?_
  refine e_seq ?_
  refine c_seq ?_
  refine c_region ?_
  refine o_val (v := .agg #[.int .i64 (k), .string (bs (t)), .slice (A) (ks.length) (c), .slice (B) (xs.length) (e)]) (x_loadS (l := [.int .i64 (k), .string (bs (t)), .slice (A) (ks.length) (c), .slice (B) (xs.length) (e)]) Tryz.isAgg25 Tryz.sizeOf25 rfl rfl (hF.cellsAll 0 rfl)) ?_
  refine o_call (few_v (.node k t ks xs) 300 (by omega) (by omega) _ _ [.int .i64 (k), .string (bs (t)), .slice (A) (ks.length) (c), .slice (B) (xs.length) (e)] (hF.rep rx)) (x_call2 en_14 rfl rfl rfl) ?_
  rintro _ w ⟨rfl, hE⟩
  replace hF := hF.ext hE
  clear hE
  refine o_val (v := .bool (fewB (.node k t ks xs) 300)) (x_assign rfl) ?_
  refine o_nil ?_
  refine e_seq ?_
  refine c_seq ?_
  refine c_seq ?_
  refine c_region ?_
  refine o_val (v := .bool (fewB (.node k t ks xs) 300)) (x_move rfl) ?_
  refine o_val (v := .bool (!(fewB (.node k t ks xs) 300))) (x_not rfl) ?_
  refine o_nil ?_
  refine e_seq ?_
  refine c_split (d := 19) (b := !(fewB (.node k t ks xs) 300)) rfl (fun hc0 => ?_) (fun hc0 => ?_)
  ·
    refine c_ift rfl ?_
    refine c_seq ?_
    refine c_region ?_
    refine o_val (v := .bool true) (x_move rfl) ?_
    refine o_val (v := .bool true) (x_assign rfl) ?_
    refine o_nil ?_
    refine e_seq ?_
    refine c_ret (e_ret (post_ret (res_1 (v := .bool true) rfl rfl) ?_))
    refine ⟨?_, hF.same⟩
    first | rfl | (refine congrArg Value.bool (decide_eq_true ?_); have hr := comp_err (x := (.node k t ks xs)) (by assumption); exact Classical.byContradiction fun hlast => hno ⟨hr, by omega, by omega⟩)
  ·
    refine c_iff rfl ?_
    refine c_skip ?_
    refine e_seq ?_
    refine c_seq ?_
    refine c_region ?_
    refine o_val (v := .agg #[.int .i64 (k), .string (bs (t)), .slice (A) (ks.length) (c), .slice (B) (xs.length) (e)]) (x_loadS (l := [.int .i64 (k), .string (bs (t)), .slice (A) (ks.length) (c), .slice (B) (xs.length) (e)]) Tryz.isAgg25 Tryz.sizeOf25 rfl rfl (hF.cellsAll 0 rfl)) ?_
    refine o_val (v := .int .i64 (ind)) (x_move rfl) ?_
    refine o_val (v := .int .i64 (d)) (x_move rfl) ?_
    have fx_ : fewB (.node k t ks xs) 300 = true := by simpa using hc0
    obtain ⟨sx, dx, tx⟩ := fewB_ok (by omega) fx_
    have mx := short_max (.node k t ks xs) tx
    refine o_call (pret_c (.node k t ks xs) ind d _ _ [.int .i64 (k), .string (bs (t)), .slice (A) (ks.length) (c), .slice (B) (xs.length) (e)] (hF.rep rx) (hG.ext hF.same) (by omega) (by omega)) (x_call3 en_18 rfl rfl rfl rfl) ?_
    rintro _ w ⟨rfl, hE⟩
    replace hF := hF.ext hE
    clear hE
    refine o_val (v := .tuple #[.string (bs (pretS (.node k t ks xs) ind d)), .int .i64 (pretE (.node k t ks xs) ind d)]) (x_move rfl) ?_
    refine o_val (v := .string (bs (pretS (.node k t ks xs) ind d))) (x_extract rfl rfl) ?_
    refine o_val (v := .int .i64 (pretE (.node k t ks xs) ind d)) (x_extract rfl rfl) ?_
    refine o_val (v := .string (bs (pretS (.node k t ks xs) ind d))) (x_assign rfl) ?_
    refine o_val (v := .int .i64 (pretE (.node k t ks xs) ind d)) (x_assign rfl) ?_
    refine o_nil ?_
    refine e_seq ?_
    refine c_seq ?_
    refine c_region ?_
    refine o_val (v := .agg #[.int .i64 (k), .string (bs (t)), .slice (A) (ks.length) (c), .slice (B) (xs.length) (e)]) (x_loadS (l := [.int .i64 (k), .string (bs (t)), .slice (A) (ks.length) (c), .slice (B) (xs.length) (e)]) Tryz.isAgg25 Tryz.sizeOf25 rfl rfl (hF.cellsAll 0 rfl)) ?_
    refine o_call (comp_c (.node k t ks xs) _ _ [.int .i64 (k), .string (bs (t)), .slice (A) (ks.length) (c), .slice (B) (xs.length) (e)] (hF.rep rx) (hG.ext hF.same) (by omega) (by omega)) (x_call1 en_16 rfl rfl) ?_
    rintro _ w ⟨rfl, hE⟩
    replace hF := hF.ext hE
    clear hE
    refine o_val (v := .tuple #[.string (bs (compS (.node k t ks xs))), .int .i64 (compE (.node k t ks xs))]) (x_move rfl) ?_
    refine o_val (v := .string (bs (compS (.node k t ks xs)))) (x_extract rfl rfl) ?_
    refine o_val (v := .int .i64 (compE (.node k t ks xs))) (x_extract rfl rfl) ?_
    refine o_val (v := .string (bs (compS (.node k t ks xs)))) (x_assign rfl) ?_
    refine o_val (v := .int .i64 (compE (.node k t ks xs))) (x_assign rfl) ?_
    refine o_nil ?_
    refine e_seq ?_
    refine c_seq ?_
    refine c_seq ?_
    refine c_region ?_
    refine o_val (v := .int .i64 (pretE (.node k t ks xs) ind d)) (x_move rfl) ?_
    refine o_val (v := .bool (decide ((pretE (.node k t ks xs) ind d : Int) ≠ (0 : Int)))) (x_neq rfl rfl) ?_
    refine o_nil ?_
    refine e_seq ?_
    refine c_splitd (d := 34) (p := (pretE (.node k t ks xs) ind d : Int) ≠ (0 : Int)) rfl (fun hc1 => ?_) (fun hc1 => ?_)
    ·
      have hno := pret_err (x := (.node k t ks xs)) (ind := ind) (d := d) (by assumption)
      refine c_ift rfl ?_
      refine c_seq ?_
      refine c_region ?_
      refine o_val (v := .bool true) (x_move rfl) ?_
      refine o_val (v := .bool true) (x_move rfl) ?_
      refine o_val (v := .string (bs (pretS (.node k t ks xs) ind d))) (x_move rfl) ?_
      refine o_val (v := .bool true) (run_true (x_eqls rfl rfl) (pret_no hno)) ?_
      refine o_val (v := .bool true) (x_pickt rfl rfl) ?_
      refine o_val (v := .bool true) (x_move rfl) ?_
      refine o_val (v := .int .i64 (compE (.node k t ks xs))) (x_move rfl) ?_
      refine o_val (v := .bool (decide ((compE (.node k t ks xs) : Int) ≠ (0 : Int)))) (x_neq rfl rfl) ?_
      refine o_val (v := .bool (decide ((compE (.node k t ks xs) : Int) ≠ (0 : Int)))) (x_move rfl) ?_
      refine o_splitd (d := 43) (p := (compE (.node k t ks xs) : Int) ≠ (0 : Int)) rfl (fun hg0 => ?_) (fun hg0 => ?_)
      ·
        refine o_off ?_
        refine o_off ?_
        refine o_val (v := .bool true) (x_pickt rfl rfl) ?_
        refine o_val (v := .bool true) (x_move rfl) ?_
        refine o_off ?_
        refine o_off ?_
        refine o_val (v := .bool true) (x_pickt rfl rfl) ?_
        refine o_val (v := .bool true) (x_move rfl) ?_
        refine o_off ?_
        refine o_off ?_
        refine o_val (v := .bool true) (x_pickt rfl rfl) ?_
        refine o_val (v := .bool true) (x_move rfl) ?_
        refine o_off ?_
        refine o_off ?_
        refine o_val (v := .bool true) (x_pickt rfl rfl) ?_
        refine o_val (v := .bool true) (x_pickt rfl rfl) ?_
        refine o_val (v := .bool true) (x_assign rfl) ?_
        refine o_nil ?_
        refine e_seq ?_
        refine c_ret (e_ret (post_ret (res_1 (v := .bool true) rfl rfl) ?_))
        refine ⟨?_, hF.same⟩
        first | rfl | (refine congrArg Value.bool (decide_eq_true ?_); have hr := comp_err (x := (.node k t ks xs)) (by assumption); exact Classical.byContradiction fun hlast => hno ⟨hr, by omega, by omega⟩)
      ·
        refine o_val (v := .int .i64 (ind)) (x_move rfl) ?_
        refine o_val (v := .bool (decide ((ind : Int) < (0 : Int)))) (x_lss rfl rfl) ?_
        refine o_val (v := .bool (decide ((ind : Int) < (0 : Int)))) (x_pickf rfl rfl) ?_
        refine o_val (v := .bool (decide ((ind : Int) < (0 : Int)))) (x_move rfl) ?_
        refine o_splitd (d := 47) (p := (ind : Int) < (0 : Int)) rfl (fun hg1 => ?_) (fun hg1 => ?_)
        ·
          refine o_off ?_
          refine o_off ?_
          refine o_val (v := .bool true) (x_pickt rfl rfl) ?_
          refine o_val (v := .bool true) (x_move rfl) ?_
          refine o_off ?_
          refine o_off ?_
          refine o_val (v := .bool true) (x_pickt rfl rfl) ?_
          refine o_val (v := .bool true) (x_move rfl) ?_
          refine o_off ?_
          refine o_off ?_
          refine o_val (v := .bool true) (x_pickt rfl rfl) ?_
          refine o_val (v := .bool true) (x_pickt rfl rfl) ?_
          refine o_val (v := .bool true) (x_assign rfl) ?_
          refine o_nil ?_
          refine e_seq ?_
          refine c_ret (e_ret (post_ret (res_1 (v := .bool true) rfl rfl) ?_))
          refine ⟨?_, hF.same⟩
          first | rfl | (refine congrArg Value.bool (decide_eq_true ?_); have hr := comp_err (x := (.node k t ks xs)) (by assumption); exact Classical.byContradiction fun hlast => hno ⟨hr, by omega, by omega⟩)
        ·
          refine o_val (v := .int .i64 (ind)) (x_move rfl) ?_
          refine o_val (v := .bool (decide ((8 : Int) < (ind : Int)))) (x_gtr rfl rfl) ?_
          refine o_val (v := .bool (decide ((8 : Int) < (ind : Int)))) (x_pickf rfl rfl) ?_
          refine o_val (v := .bool (decide ((8 : Int) < (ind : Int)))) (x_move rfl) ?_
          refine o_splitd (d := 51) (p := (8 : Int) < (ind : Int)) rfl (fun hg2 => ?_) (fun hg2 => ?_)
          ·
            refine o_off ?_
            refine o_off ?_
            refine o_val (v := .bool true) (x_pickt rfl rfl) ?_
            refine o_val (v := .bool true) (x_move rfl) ?_
            refine o_off ?_
            refine o_off ?_
            refine o_val (v := .bool true) (x_pickt rfl rfl) ?_
            refine o_val (v := .bool true) (x_pickt rfl rfl) ?_
            refine o_val (v := .bool true) (x_assign rfl) ?_
            refine o_nil ?_
            refine e_seq ?_
            refine c_ret (e_ret (post_ret (res_1 (v := .bool true) rfl rfl) ?_))
            refine ⟨?_, hF.same⟩
            first | rfl | (refine congrArg Value.bool (decide_eq_true ?_); have hr := comp_err (x := (.node k t ks xs)) (by assumption); exact Classical.byContradiction fun hlast => hno ⟨hr, by omega, by omega⟩)
          ·
            refine o_val (v := .int .i64 (d)) (x_move rfl) ?_
            refine o_val (v := .bool (decide ((d : Int) < (0 : Int)))) (x_lss rfl rfl) ?_
            refine o_val (v := .bool (decide ((d : Int) < (0 : Int)))) (x_pickf rfl rfl) ?_
            refine o_val (v := .bool (decide ((d : Int) < (0 : Int)))) (x_move rfl) ?_
            refine o_splitd (d := 55) (p := (d : Int) < (0 : Int)) rfl (fun hg3 => ?_) (fun hg3 => ?_)
            ·
              refine o_off ?_
              refine o_off ?_
              refine o_val (v := .bool true) (x_pickt rfl rfl) ?_
              refine o_val (v := .bool true) (x_pickt rfl rfl) ?_
              refine o_val (v := .bool true) (x_assign rfl) ?_
              refine o_nil ?_
              refine e_seq ?_
              refine c_ret (e_ret (post_ret (res_1 (v := .bool true) rfl rfl) ?_))
              refine ⟨?_, hF.same⟩
              first | rfl | (refine congrArg Value.bool (decide_eq_true ?_); have hr := comp_err (x := (.node k t ks xs)) (by assumption); exact Classical.byContradiction fun hlast => hno ⟨hr, by omega, by omega⟩)
            ·
              refine o_val (v := .int .i64 (d)) (x_move rfl) ?_
              refine o_val (v := .bool (decide ((32 : Int) < (d : Int)))) (x_gtr rfl rfl) ?_
              refine o_val (v := .bool (decide ((32 : Int) < (d : Int)))) (x_pickf rfl rfl) ?_
              refine o_val (v := .bool (decide ((32 : Int) < (d : Int)))) (x_pickt rfl rfl) ?_
              refine o_val (v := .bool (decide ((32 : Int) < (d : Int)))) (x_assign rfl) ?_
              refine o_nil ?_
              refine e_seq ?_
              refine c_ret (e_ret (post_ret (res_1 (v := .bool (decide ((32 : Int) < (d : Int)))) rfl rfl) ?_))
              refine ⟨?_, hF.same⟩
              first | rfl | (refine congrArg Value.bool (decide_eq_true ?_); have hr := comp_err (x := (.node k t ks xs)) (by assumption); exact Classical.byContradiction fun hlast => hno ⟨hr, by omega, by omega⟩)
    ·
      have hok := pret_ok (x := (.node k t ks xs)) (ind := ind) (d := d) (by omega)
      have hsh := pret_short hok (by omega)
      refine c_iff rfl ?_
      refine c_skip ?_
      refine e_seq ?_
      refine c_seq ?_
      refine c_region ?_
      refine o_val (v := .int .i64 (0)) (x_assign rfl) ?_
      refine o_nil ?_
      refine e_seq ?_
      refine c_seq ?_
      refine c_seq ?_
      refine c_region ?_
      refine o_val (v := .int .i64 (0)) (x_assign rfl) ?_
      refine o_nil ?_
      refine e_seq ?_
      refine c_block ?_
      refine c_loop (fun μ σ w => ∃ (j : Nat), ∃ (n : Nat), μ = (pretS (.node k t ks xs) ind d).length - j ∧ (j ≤ (pretS (.node k t ks xs) ind d).length) ∧ (n = nl ((pretS (.node k t ks xs) ind d).take j)) ∧ (n ≤ j) ∧ AllEq σ [(3, .pointer (some ⟨b1, 0, none⟩)), (7, .bool true), (9, .string (bs (pretS (.node k t ks xs) ind d))), (11, .string (bs (compS (.node k t ks xs)))), (12, .int .i64 (compE (.node k t ks xs))), (13, .int .i64 ((n : Int))), (14, .int .i64 ((j : Int)))] ∧ FR w0 [] [(b1, .cells #[.int .i64 (k), .string (bs (t)), .slice (A) (ks.length) (c), .slice (B) (xs.length) (e)] 25)] w) _ ⟨0, 0, rfl, (Nat.zero_le _), (rfl), (Nat.le_refl _), ⟨rfl, rfl, rfl, rfl, rfl, rfl, rfl, trivial⟩, hF⟩ ?_
      clear hF; rintro μ σ w ⟨j, n, rfl, hj, hn, hnj, hs, hF⟩
      refine Cg.slots hs ?_
      clear hs; intro σ
      refine c_seq ?_
      refine c_seq ?_
      refine c_region ?_
      refine o_val (v := .int .i64 ((j : Int))) (x_move rfl) ?_
      refine o_val (v := .string (bs (pretS (.node k t ks xs) ind d))) (x_move rfl) ?_
      refine o_val (v := .int .i64 ((((pretS (.node k t ks xs) ind d) : Str).length : Int))) (x_len_string Tryz.underlying9 rfl) ?_
      refine o_val (v := .bool (decide (((j : Int) : Int) < ((((pretS (.node k t ks xs) ind d) : Str).length : Int) : Int)))) (x_lss rfl rfl) ?_
      refine o_nil ?_
      refine e_seq ?_
      refine c_splitd (d := 63) (p := ((j : Int) : Int) < ((((pretS (.node k t ks xs) ind d) : Str).length : Int) : Int)) rfl (fun hc2 => ?_) (fun hc2 => ?_)
      ·
        refine c_ift rfl ?_
        refine c_skip ?_
        refine e_seq ?_
        refine c_seq ?_
        refine c_block ?_
        refine c_seq ?_
        refine c_region ?_
        refine o_val (v := .string (bs (pretS (.node k t ks xs) ind d))) (x_move rfl) ?_
        refine o_val (v := .int .i64 ((j : Int))) (x_move rfl) ?_
        refine o_val (v := .int .u8 ((((pretS (.node k t ks xs) ind d : Str)[j]'(by omega)).toNat : Int))) (x_index (j) Tryz.underlying9 rfl rfl (by omega)) ?_
        refine o_val (v := .bool (decide (((((pretS (.node k t ks xs) ind d : Str)[j]'(by omega)).toNat : Int) : Int) = (10 : Int)))) (x_eql rfl rfl) ?_
        refine o_nil ?_
        refine e_seq ?_
        refine c_splitd (d := 69) (p := ((((pretS (.node k t ks xs) ind d : Str)[j]'(by omega)).toNat : Int) : Int) = (10 : Int)) rfl (fun hc3 => ?_) (fun hc3 => ?_)
        ·
          refine c_ift rfl ?_
          refine c_region ?_
          refine o_val (v := .int .i64 ((n : Int))) (x_move rfl) ?_
          refine o_val (v := .int .i64 (((n + 1 : Nat) : Int))) (x_add rfl rfl (wrap_to (by omega) (by omega) (by omega))) ?_
          refine o_val (v := .int .i64 (((n + 1 : Nat) : Int))) (x_assign rfl) ?_
          refine o_nil ?_
          refine e_block ?_
          refine e_seq ?_
          refine c_region ?_
          refine o_val (v := .int .i64 ((j : Int))) (x_move rfl) ?_
          refine o_val (v := .int .i64 (((j + 1 : Nat) : Int))) (x_add rfl rfl (wrap_to (by omega) (by omega) (by omega))) ?_
          refine o_val (v := .int .i64 (((j + 1 : Nat) : Int))) (x_assign rfl) ?_
          refine o_nil ?_
          refine e_inv ⟨_, ?_, j + 1, n + 1, rfl, (by omega), (by have h := nl_take (s := pretS (.node k t ks xs) ind d) (by omega) hn; have e : ((((pretS (.node k t ks xs) ind d)[j].toNat : Nat) : Int) = 10) ↔ (pretS (.node k t ks xs) ind d)[j] = 10 := u8_is (pretS (.node k t ks xs) ind d)[j] 10 (by decide); first | (rw [if_pos (e.1 (by assumption))] at h; exact h.symm) | (rw [if_neg (fun hh => absurd (e.2 hh) (by assumption))] at h; exact h.symm)), (by omega), ⟨rfl, rfl, rfl, rfl, rfl, rfl, rfl, trivial⟩, hF⟩
          omega
        ·
          refine c_iff rfl ?_
          refine c_skip ?_
          refine e_block ?_
          refine e_seq ?_
          refine c_region ?_
          refine o_val (v := .int .i64 ((j : Int))) (x_move rfl) ?_
          refine o_val (v := .int .i64 (((j + 1 : Nat) : Int))) (x_add rfl rfl (wrap_to (by omega) (by omega) (by omega))) ?_
          refine o_val (v := .int .i64 (((j + 1 : Nat) : Int))) (x_assign rfl) ?_
          refine o_nil ?_
          refine e_inv ⟨_, ?_, j + 1, n, rfl, (by omega), (by have h := nl_take (s := pretS (.node k t ks xs) ind d) (by omega) hn; have e : ((((pretS (.node k t ks xs) ind d)[j].toNat : Nat) : Int) = 10) ↔ (pretS (.node k t ks xs) ind d)[j] = 10 := u8_is (pretS (.node k t ks xs) ind d)[j] 10 (by decide); first | (rw [if_pos (e.1 (by assumption))] at h; exact h.symm) | (rw [if_neg (fun hh => absurd (e.2 hh) (by assumption))] at h; exact h.symm)), (by omega), ⟨rfl, rfl, rfl, rfl, rfl, rfl, rfl, trivial⟩, hF⟩
          omega
      ·
        have hnn : n = nl (pretS (.node k t ks xs) ind d) := by rw [hn, List.take_of_length_le (by omega)]
        refine c_iff rfl ?_
        refine c_exit (e_exit rfl ?_)
        refine e_seq ?_
        refine c_seq ?_
        refine c_region ?_
        refine o_val (v := .bool true) (x_move rfl) ?_
        refine o_val (v := .bool true) (x_move rfl) ?_
        refine o_val (v := .int .i64 (compE (.node k t ks xs))) (x_move rfl) ?_
        refine o_val (v := .bool true) (run_true (x_eql rfl rfl) (by rw [compE, if_pos hok.1])) ?_
        refine o_val (v := .bool true) (x_pickt rfl rfl) ?_
        refine o_val (v := .bool true) (x_move rfl) ?_
        refine o_val (v := .string (bs (pretS (.node k t ks xs) ind d))) (x_move rfl) ?_
        refine o_call (bare_c (pretS (.node k t ks xs) ind d) (by omega) _) (x_call1 en_23 rfl rfl) ?_
        rintro _ w ⟨rfl, hE⟩
        replace hF := hF.ext hE
        clear hE
        refine o_val (v := .string (bs (compS (.node k t ks xs)))) (x_move rfl) ?_
        refine o_val (v := .bool true) (run_true (x_eqls rfl rfl) (pret_bare hok)) ?_
        refine o_val (v := .bool true) (x_pickt rfl rfl) ?_
        refine o_val (v := .bool true) (x_move rfl) ?_
        refine o_val (v := .int .i64 ((n : Int))) (x_move rfl) ?_
        refine o_val (v := .agg #[.int .i64 (k), .string (bs (t)), .slice (A) (ks.length) (c), .slice (B) (xs.length) (e)]) (x_loadS (l := [.int .i64 (k), .string (bs (t)), .slice (A) (ks.length) (c), .slice (B) (xs.length) (e)]) Tryz.isAgg25 Tryz.sizeOf25 rfl rfl (hF.cellsAll 0 rfl)) ?_
        refine o_call (size_v (.node k t ks xs) (by omega) _ _ [.int .i64 (k), .string (bs (t)), .slice (A) (ks.length) (c), .slice (B) (xs.length) (e)] (hF.rep rx)) (x_call1 en_24 rfl rfl) ?_
        rintro _ w ⟨rfl, hE⟩
        replace hF := hF.ext hE
        clear hE
        refine o_val (v := .int .i64 (((2 * sizeT (.node k t ks xs) : Nat) : Int))) (x_mul rfl rfl (wrap_to (by omega) (by omega) (by omega))) ?_
        refine o_val (v := .bool true) (run_true (x_leq rfl rfl) (by have := (pret_lines hok).1; omega)) ?_
        refine o_val (v := .bool true) (x_pickt rfl rfl) ?_
        refine o_val (v := .bool true) (x_move rfl) ?_
        refine o_val (v := .int .i64 ((n : Int))) (x_move rfl) ?_
        refine o_val (v := .bool (decide (((n : Int) : Int) = (0 : Int)))) (x_eql rfl rfl) ?_
        refine o_val (v := .pointer (some ⟨b1, 3, none⟩)) (x_fieldAddrO fa_25_3 rfl) ?_
        refine o_val (v := .slice (B) (xs.length) (e)) (x_load Tryz.isAgg23 rfl (hF.cell 0 rfl rfl)) ?_
        refine o_val (v := .int .i64 ((xs.length : Nat))) (x_len_slice Tryz.underlying23 rfl) ?_
        refine o_val (v := .bool (decide (((xs.length : Nat) : Int) = (0 : Int)))) (x_eql rfl rfl) ?_
        refine o_val (v := .bool true) (run_boolL (x_eqlb Tryz.underlying4 rfl rfl) (by have h := (pret_lines hok).2; rw [← hnn] at h; have h2 : (Tree.node k t ks xs).items = [] ↔ xs.length = 0 := List.length_eq_zero_iff.symm; rw [h2] at h; by_cases h0 : n = 0 <;> simp_all)) ?_
        refine o_val (v := .bool true) (x_pickt rfl rfl) ?_
        refine o_val (v := .bool true) (x_assign rfl) ?_
        refine o_nil ?_
        refine e_seq ?_
        refine c_ret (e_ret (post_ret (res_1 (v := .bool true) rfl rfl) ?_))
        refine ⟨?_, hF.same⟩
        first | rfl | (refine congrArg Value.bool (decide_eq_true ?_); have hr := comp_err (x := (.node k t ks xs)) (by assumption); exact Classical.byContradiction fun hlast => hno ⟨hr, by omega, by omega⟩)
theorem printLines_w (w0 : World) (hG : Gl w0) (x : Tree) (cx : List Value) (rx : Rep (fun _ => True) w0 (treeD x) cx) (ind : Int) (_ri : -9223372036854775808 ≤ ind) (_si : ind ≤ 9223372036854775807) (d : Int) (_rd : -9223372036854775808 ≤ d) (_sd : d ≤ 9223372036854775807) : Calls Tryz.prog 4 #[.agg cx.toArray, .int .i64 ind, .int .i64 d] w0 (Ret fun v w' => v = .bool true ∧ Same [] w0 w') := by
  obtain ⟨k, t, ks, xs⟩ := x
  have rx0 := rx
  obtain ⟨A, c, B, e, rfl, -, -, -, hX⟩ := rx0.tree_inv
  have h1 := hX.slice_len
  exact printLines_w0 w0 hG k t ks xs ind d A c B e rx (by omega)
end Go.Scarf
