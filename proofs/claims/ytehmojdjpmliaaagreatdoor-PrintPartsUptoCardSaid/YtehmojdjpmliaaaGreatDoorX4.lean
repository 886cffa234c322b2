/- A part of the proof. -/
import Derived.Test.YtehmojdjpmliaaaGreatDoorX2
import Derived.Test.YtehmojdjpmliaaaGreatDoorRow2
set_option linter.all false
namespace Go.Scarf
open Go.RowKit Go.Proofs
theorem joinS_flat (d d' : Nat) : ∀ (ps : List Str) (b : Bool), joinS false 0 d b ps = joinS false 0 d' b ps
  | [], b => by rw [joinS, joinS]
  | p :: ps, b => by rw [joinS, joinS, joinS_flat d d' ps]; rfl
theorem itemsS_flat (d : Nat) (o c : UInt8) (ps : List Str) : itemsS false 0 d o c ps = [o] ++ (joinS false 0 0 true ps ++ [c]) := by
  have e : (if ps = [] then [] else lineS false 0 d) = ([] : Str) := by split <;> rfl
  rw [itemsS, e, joinS_flat d 0, List.nil_append]
theorem val_flat (x : Tree) : ∀ d d', valS false 0 x d = valS false 0 x d' := Tree.ind (Q := fun x => ∀ d d', valS false 0 x d = valS false 0 x d') (fun k t ks xs ih d d' => by
  have h1 : valsS false 0 xs (d + 1) = valsS false 0 xs (d' + 1) := by
    rw [valsS_eq, valsS_eq]
    exact List.map_congr_left fun x hx => ih x hx _ _
  have h2 : ∀ (ys : List Tree) (js : List Str), (∀ y ∈ ys, y ∈ xs) → memsS false 0 ys js (d + 1) = memsS false 0 ys js (d' + 1) := by
    intro ys
    induction ys with
    | nil => intro _ _; rw [memsS, memsS]
    | cons y ys ihy =>
      intro js hm
      rw [memsS, memsS, ih y (hm y (by simp)) (d + 1) (d' + 1), ihy js.tail fun z hz => hm z (by simp [hz])]
  rw [valS, valS, h1, h2 xs ks fun _ h => h]
  simp only [itemsS_flat]) x
theorem join_take (d : Nat) : ∀ (ps : List Str) (j : Nat) (h : j < ps.length) (b : Bool), joinS false 0 d b (ps.take (j + 1)) = joinS false 0 d b (ps.take j) ++ ((if b = true ∧ j = 0 then [] else [44]) ++ ps[j])
  | p :: ps, 0, h, b => by cases b <;> simp [joinS, lineS]
  | p :: ps, j + 1, h, b => by
    have h1 : j < ps.length := by simpa using h
    rw [List.take_succ_cons, List.take_succ_cons, joinS, joinS, join_take d ps j h1 false]
    simp
theorem join_le (d : Nat) : ∀ (ps : List Str) (j : Nat) (b : Bool), (joinS false 0 d b (ps.take j)).length ≤ (joinS false 0 d b ps).length
  | [], j, b => by simp
  | p :: ps, 0, b => by simp [joinS]
  | p :: ps, j + 1, b => by
    have := join_le d ps j false
    rw [List.take_succ_cons, joinS, joinS]
    simp only [List.length_append]
    omega
def psL (k : Int) (ks : List Str) (xs : List Tree) : List Str := if k = 6 then memsS false 0 xs ks 1 else valsS false 0 xs 1
def jS (k : Int) (ks : List Str) (xs : List Tree) (j : Nat) : Str := joinS false 0 0 true ((psL k ks xs).take j)
theorem ps_len (k : Int) (ks : List Str) (xs : List Tree) : (psL k ks xs).length = xs.length := by
  unfold psL
  split
  · exact memsS_length _ _ _ _ _
  · rw [valsS_eq, List.length_map]
theorem jS_zero (k : Int) (ks : List Str) (xs : List Tree) : jS k ks xs 0 = [] := by rw [jS, List.take_zero, joinS]
theorem jS_six {k : Int} {ks : List Str} {xs : List Tree} {j : Nat} (hk : k = 6) (h : j < xs.length) (hl : j < ks.length) : jS k ks xs (j + 1) = jS k ks xs j ++ ((if j = 0 then [] else [44]) ++ (qS ks[j] ++ ([58] ++ valS false 0 xs[j] 0))) := by
  have h1 : j < (psL k ks xs).length := by rw [ps_len]; exact h
  have h2 : (psL k ks xs)[j] = qS ks[j] ++ ([58] ++ valS false 0 xs[j] 0) := by
    have e : psL k ks xs = memsS false 0 xs ks 1 := if_pos hk
    rw [List.getElem_of_eq e, memsS_get false 0 1 xs ks j h hl, memS, val_flat xs[j] 1 0]
    rfl
  rw [jS, join_take 0 _ j h1 true, h2, jS]
  simp
theorem jS_five {k : Int} {ks : List Str} {xs : List Tree} {j : Nat} (hk : ¬ k = 6) (h : j < xs.length) : jS k ks xs (j + 1) = jS k ks xs j ++ ((if j = 0 then [] else [44]) ++ valS false 0 xs[j] 0) := by
  have h1 : j < (psL k ks xs).length := by rw [ps_len]; exact h
  have h2 : (psL k ks xs)[j] = valS false 0 xs[j] 0 := by
    have e : psL k ks xs = valsS false 0 xs 1 := if_neg hk
    have e2 := valsS_eq false 0 1 xs
    rw [List.getElem_of_eq (e.trans e2), List.getElem_map, val_flat xs[j] 1 0]
  rw [jS, join_take 0 _ j h1 true, h2, jS]
  simp
theorem comp_five {k : Int} {t : Str} {ks : List Str} {xs : List Tree} (h : rightB (.node k t ks xs) = true) (hk : k = 5) : compS (.node k t ks xs) = [91] ++ jS k ks xs xs.length ++ [93] := by
  rw [compS, if_pos h, valS, if_neg (by omega), if_neg (by omega), if_pos hk, itemsS_flat, jS, List.take_of_length_le (by rw [ps_len]; exact Nat.le_refl _), psL, if_neg (by omega), List.append_assoc]
theorem comp_six {k : Int} {t : Str} {ks : List Str} {xs : List Tree} (h : rightB (.node k t ks xs) = true) (hk : k = 6) : compS (.node k t ks xs) = [123] ++ jS k ks xs xs.length ++ [125] := by
  rw [compS, if_pos h, valS, if_neg (by omega), if_neg (by omega), if_neg (by omega), if_pos hk, itemsS_flat, jS, List.take_of_length_le (by rw [ps_len]; exact Nat.le_refl _), psL, if_pos hk, List.append_assoc]
theorem jS_le {k : Int} {t : Str} {ks : List Str} {xs : List Tree} (h : rightB (.node k t ks xs) = true) (hk : k = 5 ∨ k = 6) (hm : maxL (.node k t ks xs) ≤ 1073741824) (j : Nat) : (jS k ks xs j).length + 2 ≤ 140737488355328 := by
  have h1 := right_lim h hm false 0 0 (by omega) (by omega)
  have h2 : compS (.node k t ks xs) = valS false 0 (.node k t ks xs) 0 := by rw [compS, if_pos h]
  have h3 := join_le 0 (psL k ks xs) j true
  have h4 : (jS k ks xs xs.length).length = (joinS false 0 0 true (psL k ks xs)).length := by rw [jS, List.take_of_length_le (by rw [ps_len]; exact Nat.le_refl _)]
  rw [← h2] at h1
  rcases hk with hk | hk
  · rw [comp_five h hk] at h1
    simp only [List.length_append, List.length_cons, List.length_nil] at h1
    unfold jS at h1 h4 ⊢
    omega
  · rw [comp_six h hk] at h1
    simp only [List.length_append, List.length_cons, List.length_nil] at h1
    unfold jS at h1 h4 ⊢
    omega
theorem right_kid {k : Int} {t : Str} {ks : List Str} {xs : List Tree} (h : rightB (.node k t ks xs) = true) {x : Tree} (hx : x ∈ xs) : rightB x = true := by
  unfold rightB sizedB at h ⊢
  simp only [Bool.and_eq_true, decide_eq_true_eq] at h ⊢
  have h1 := sizeTs_mem hx
  have h2 := depthTs_mem hx
  rw [sizeT, depthT] at h
  exact ⟨⟨by omega, by omega⟩, (allT_node h.2).2 x hx⟩
theorem right_keys {k : Int} {t : Str} {ks : List Str} {xs : List Tree} (h : rightB (.node k t ks xs) = true) (hk : k = 6) : ks.length = xs.length ∧ ∀ x ∈ ks, Lib.validD x = true := by
  have h1 := (allT_node (right_all h)).1
  subst hk
  refine ⟨(node6 h1).2, ?_⟩
  simp only [nodeB, keyedB] at h1
  simp at h1
  exact h1.1.1.2
theorem jS_succ {k : Int} {t : Str} {ks : List Str} {xs : List Tree} {j : Nat} (ax : rightB (.node k t ks xs) = true) (hjx : j < xs.length) : (k = 6 ∧ ∃ h : j < ks.length, jS k ks xs (j + 1) = jS k ks xs j ++ ((if j = 0 then [] else [44]) ++ (qS ks[j] ++ ([58] ++ valS false 0 xs[j] 0)))) ∨ (¬ k = 6 ∧ jS k ks xs (j + 1) = jS k ks xs j ++ ((if j = 0 then [] else [44]) ++ valS false 0 xs[j] 0)) := by
  by_cases h6 : k = 6
  · have hl := (right_keys ax h6).1
    exact .inl ⟨h6, by omega, jS_six h6 hjx (by omega)⟩
  · exact .inr ⟨h6, jS_five h6 hjx⟩
theorem right_leaf {s : Str} (h : Lib.validD s = true) : rightB (.node 4 s [] []) = true := by simp [rightB, sizedB, sizeT, sizeTs, depthT, depthTs, allT, allTs, rnodeB, nodeB, Tree.kind, h]
theorem comp_leaf {s : Str} (h : Lib.validD s = true) : compS (.node 4 s [] []) = qS s ∧ compE (.node 4 s [] []) = 0 := by
  have h1 := right_leaf h
  refine ⟨?_, by rw [compE, if_pos h1]⟩
  rw [compS, if_pos h1, valS]; rfl
theorem comp_kid {k : Int} {t : Str} {ks : List Str} {xs : List Tree} (h : rightB (.node k t ks xs) = true) {j : Nat} (hj : j < xs.length) : compS xs[j] = valS false 0 xs[j] 0 ∧ compE xs[j] = 0 := by
  have h1 := right_kid h (List.getElem_mem hj)
  exact ⟨by rw [compS, if_pos h1], by rw [compE, if_pos h1]⟩
theorem leaf_rep {S : Nat → Prop} {w : World} {s : Str} (h : s.length ≤ 9223372036854775807) : Rep S w (treeD (.node 4 s [] [])) [.int .i64 4, .string (bs s), .slice none 0 0, .slice none 0 0] :=
  Rep.tree_mk ⟨by omega, by omega⟩ h (Rep.nil_slice 0 (by omega) none) (Rep.nil_slice 0 (by omega) none)
set_option maxHeartbeats 4000000 in
set_option maxRecDepth 10000 in
theorem printParts_w0 (w0 : World) (hG : Gl w0) (k : Int) (t : Str) (ks : List Str) (xs : List Tree) (A : Option Addr) (c : Nat) (B : Option Addr) (e : Nat) (rx : Rep (fun _ => True) w0 (treeD (.node k t ks xs)) [.int .i64 (k), .string (bs (t)), .slice (A) (ks.length) (c), .slice (B) (xs.length) (e)]) (hsz : sizeT (.node k t ks xs) ≤ 1048576) (hmx : maxL (.node k t ks xs) ≤ 1048576) (hxl : xs.length ≤ 1048576) : Calls Tryz.prog 5 #[.agg #[.int .i64 (k), .string (bs (t)), .slice (A) (ks.length) (c), .slice (B) (xs.length) (e)]] w0 (Ret fun v w' => v = .bool true ∧ Same [] w0 w') := by
  obtain ⟨A_, c_, B_, e_, hcx_, -, -, hK0, hX0⟩ := rx.tree_inv
  obtain ⟨hK, hX⟩ : Rep (fun _ => True) w0 (strsD ks) [.slice A ks.length c] ∧ Rep (fun _ => True) w0 (.slice (treesD xs)) [.slice B xs.length e] := by simp at hcx_; obtain ⟨⟨rfl, rfl⟩, rfl, rfl⟩ := hcx_; exact ⟨hK0, hX0⟩
  have hKl := hK.slice_len
  refine calls_start Tryz.func5 rfl Tryz.ntmps5 (Nat.le_of_ble_eq_true rfl) (args_1 _) ?_
  have hF := FR.start w0 []
  refine c_seq ?_
  refine c_region ?_
  refine o_box (v := .agg #[.int .i64 (k), .string (bs (t)), .slice (A) (ks.length) (c), .slice (B) (xs.length) (e)]) (cs := #[.int .i64 (k), .string (bs (t)), .slice (A) (ks.length) (c), .slice (B) (xs.length) (e)]) hF rfl rfl ?_
  clear hF; intro b1 w hb1 hF hE
  clear hE
  refine o_val (v := .bool false) (x_assign rfl) ?_
  refine o_nil ?_
  refine e_seq ?_
  refine c_seq ?_
  refine c_region ?_
  refine o_call (small8_c _ (hG.ext hF.same)) (x_call0 en_13 rfl) ?_
  rintro _ w ⟨rfl, hE⟩
  replace hF := hF.ext hE
  clear hE
  refine o_val (v := .bool true) (x_assign rfl) ?_
  refine o_nil ?_
  refine e_seq ?_
  refine c_seq ?_
  refine c_region ?_
  refine o_val (v := .agg #[.int .i64 (k), .string (bs (t)), .slice (A) (ks.length) (c), .slice (B) (xs.length) (e)]) (x_loadS (l := [.int .i64 (k), .string (bs (t)), .slice (A) (ks.length) (c), .slice (B) (xs.length) (e)]) Tryz.isAgg25 Tryz.sizeOf25 rfl rfl (hF.cellsAll 0 rfl)) ?_
  refine o_call (few_v (.node k t ks xs) 300 (by omega) (by omega) _ _ [.int .i64 (k), .string (bs (t)), .slice (A) (ks.length) (c), .slice (B) (xs.length) (e)] (hF.rep rx)) (x_call2 en_14 rfl rfl rfl) ?_
  rintro _ w ⟨rfl, hE⟩
  replace hF := hF.ext hE
  clear hE
  refine o_val (v := .bool (fewB (.node k t ks xs) 300)) (x_assign rfl) ?_
  refine o_nil ?_
  refine e_seq ?_
  refine c_seq ?_
  refine c_region ?_
  refine o_val (v := .agg #[.int .i64 (k), .string (bs (t)), .slice (A) (ks.length) (c), .slice (B) (xs.length) (e)]) (x_loadS (l := [.int .i64 (k), .string (bs (t)), .slice (A) (ks.length) (c), .slice (B) (xs.length) (e)]) Tryz.isAgg25 Tryz.sizeOf25 rfl rfl (hF.cellsAll 0 rfl)) ?_
  refine o_call (comp_c (.node k t ks xs) _ _ [.int .i64 (k), .string (bs (t)), .slice (A) (ks.length) (c), .slice (B) (xs.length) (e)] (hF.rep rx) (hG.ext hF.same) (by omega) (by omega)) (x_call1 en_16 rfl rfl) ?_
  rintro _ w ⟨rfl, hE⟩
  replace hF := hF.ext hE
  clear hE
  refine o_val (v := .tuple #[.string (bs (compS (.node k t ks xs))), .int .i64 (compE (.node k t ks xs))]) (x_move rfl) ?_
  refine o_val (v := .string (bs (compS (.node k t ks xs)))) (x_extract rfl rfl) ?_
  refine o_val (v := .int .i64 (compE (.node k t ks xs))) (x_extract rfl rfl) ?_
  refine o_val (v := .string (bs (compS (.node k t ks xs)))) (x_assign rfl) ?_
  refine o_val (v := .int .i64 (compE (.node k t ks xs))) (x_assign rfl) ?_
  refine o_nil ?_
  refine e_seq ?_
  refine c_seq ?_
  refine c_seq ?_
  refine c_region ?_
  refine o_val (v := .bool (fewB (.node k t ks xs) 300)) (x_move rfl) ?_
  refine o_val (v := .bool (!(fewB (.node k t ks xs) 300))) (x_not rfl) ?_
  refine o_val (v := .bool (!(fewB (.node k t ks xs) 300))) (x_move rfl) ?_
  refine o_split (d := 23) (b := !(fewB (.node k t ks xs) 300)) rfl (fun hg0 => ?_) (fun hg0 => ?_)
  ·
    refine o_off ?_
    refine o_off ?_
    refine o_val (v := .bool true) (x_pickt rfl rfl) ?_
    refine o_val (v := .bool true) (x_move rfl) ?_
    refine o_off ?_
    refine o_off ?_
    refine o_off ?_
    refine o_off ?_
    refine o_off ?_
    refine o_off ?_
    refine o_off ?_
    refine o_off ?_
    refine o_val (v := .bool true) (x_pickt rfl rfl) ?_
    refine o_nil ?_
    refine e_seq ?_
    refine c_ift rfl ?_
    refine c_seq ?_
    refine c_region ?_
    refine o_val (v := .bool true) (x_move rfl) ?_
    refine o_val (v := .bool true) (x_assign rfl) ?_
    refine o_nil ?_
    refine e_seq ?_
    refine c_ret (e_ret (post_ret (res_1 (v := .bool true) rfl rfl) ?_))
    exact ⟨rfl, hF.same⟩
  ·
    refine o_val (v := .int .i64 (compE (.node k t ks xs))) (x_move rfl) ?_
    refine o_val (v := .bool (decide ((compE (.node k t ks xs) : Int) ≠ (0 : Int)))) (x_neq rfl rfl) ?_
    refine o_val (v := .bool (decide ((compE (.node k t ks xs) : Int) ≠ (0 : Int)))) (x_pickf rfl rfl) ?_
    refine o_val (v := .bool (decide ((compE (.node k t ks xs) : Int) ≠ (0 : Int)))) (x_move rfl) ?_
    refine o_splitd (d := 27) (p := (compE (.node k t ks xs) : Int) ≠ (0 : Int)) rfl (fun hg1 => ?_) (fun hg1 => ?_)
    ·
      refine o_off ?_
      refine o_off ?_
      refine o_off ?_
      refine o_off ?_
      refine o_off ?_
      refine o_off ?_
      refine o_off ?_
      refine o_off ?_
      refine o_val (v := .bool true) (x_pickt rfl rfl) ?_
      refine o_nil ?_
      refine e_seq ?_
      refine c_ift rfl ?_
      refine c_seq ?_
      refine c_region ?_
      refine o_val (v := .bool true) (x_move rfl) ?_
      refine o_val (v := .bool true) (x_assign rfl) ?_
      refine o_nil ?_
      refine e_seq ?_
      refine c_ret (e_ret (post_ret (res_1 (v := .bool true) rfl rfl) ?_))
      exact ⟨rfl, hF.same⟩
    ·
      refine o_val (v := .pointer (some ⟨b1, 0, none⟩)) (x_fieldAddrO fa_25_0 rfl) ?_
      refine o_val (v := .int .i64 (k)) (x_load Tryz.isAgg3 rfl (hF.cell 0 rfl rfl)) ?_
      refine o_val (v := .bool (decide ((k : Int) ≠ (5 : Int)))) (x_neq rfl rfl) ?_
      refine o_val (v := .bool (decide ((k : Int) ≠ (5 : Int)))) (x_move rfl) ?_
      refine o_splitd (d := 31) (p := (k : Int) ≠ (5 : Int)) rfl (fun hg2 => ?_) (fun hg2 => ?_)
      ·
        refine o_val (v := .pointer (some ⟨b1, 0, none⟩)) (x_fieldAddrO fa_25_0 rfl) ?_
        refine o_val (v := .int .i64 (k)) (x_load Tryz.isAgg3 rfl (hF.cell 0 rfl rfl)) ?_
        refine o_val (v := .bool (decide ((k : Int) ≠ (6 : Int)))) (x_neq rfl rfl) ?_
        refine o_val (v := .bool (decide ((k : Int) ≠ (6 : Int)))) (x_pickt rfl rfl) ?_
        refine o_val (v := .bool (decide ((k : Int) ≠ (6 : Int)))) (x_pickf rfl rfl) ?_
        refine o_nil ?_
        refine e_seq ?_
        refine c_splitd (d := 36) (p := (k : Int) ≠ (6 : Int)) rfl (fun hc0 => ?_) (fun hc0 => ?_)
        ·
          refine c_ift rfl ?_
          refine c_seq ?_
          refine c_region ?_
          refine o_val (v := .bool true) (x_move rfl) ?_
          refine o_val (v := .bool true) (x_assign rfl) ?_
          refine o_nil ?_
          refine e_seq ?_
          refine c_ret (e_ret (post_ret (res_1 (v := .bool true) rfl rfl) ?_))
          exact ⟨rfl, hF.same⟩
        ·
          refine c_iff rfl ?_
          refine c_skip ?_
          refine e_seq ?_
          refine c_seq ?_
          refine c_region ?_
          refine o_val (v := .string (bs ([]))) (x_assign rfl) ?_
          refine o_nil ?_
          refine e_seq ?_
          refine c_seq ?_
          refine c_seq ?_
          refine c_region ?_
          refine o_val (v := .int .i64 (0)) (x_assign rfl) ?_
          refine o_nil ?_
          refine e_seq ?_
          refine c_block ?_
          have ax : rightB (.node k t ks xs) = true := comp_err (by assumption)
          have kk : k = 5 ∨ k = 6 := by omega
          have fx_ : fewB (.node k t ks xs) 300 = true := by have h := hg0; simpa using h
          have hlim := jS_le ax kk (by omega)
          refine c_loop (fun μ σ w => ∃ (j : Nat), ∃ (s : Str), μ = xs.length - j ∧ (j ≤ xs.length) ∧ (s = jS k ks xs j) ∧ AllEq σ [(1, .pointer (some ⟨b1, 0, none⟩)), (3, .bool true), (5, .string (bs (compS (.node k t ks xs)))), (7, .string (bs (s))), (8, .int .i64 ((j : Int)))] ∧ FR w0 [] [(b1, .cells #[.int .i64 (k), .string (bs (t)), .slice (A) (ks.length) (c), .slice (B) (xs.length) (e)] 25)] w) _ ⟨0, [], rfl, (Nat.zero_le _), ((jS_zero _ _ _).symm), ⟨rfl, rfl, rfl, rfl, rfl, trivial⟩, hF⟩ ?_
          clear hF; rintro μ σ w ⟨j, s, rfl, hj, hs, hs, hF⟩
          refine Cg.slots hs ?_
          clear hs; intro σ
          refine c_seq ?_
          refine c_seq ?_
          refine c_region ?_
          refine o_val (v := .int .i64 ((j : Int))) (x_move rfl) ?_
          refine o_val (v := .pointer (some ⟨b1, 3, none⟩)) (x_fieldAddrO fa_25_3 rfl) ?_
          refine o_val (v := .slice (B) (xs.length) (e)) (x_load Tryz.isAgg23 rfl (hF.cell 0 rfl rfl)) ?_
          refine o_val (v := .int .i64 ((xs.length : Nat))) (x_len_slice Tryz.underlying23 rfl) ?_
          refine o_val (v := .bool (decide (((j : Int) : Int) < ((xs.length : Nat) : Int)))) (x_lss rfl rfl) ?_
          refine o_nil ?_
          refine e_seq ?_
          refine c_splitd (d := 42) (p := ((j : Int) : Int) < ((xs.length : Nat) : Int)) rfl (fun hc1 => ?_) (fun hc1 => ?_)
          ·
            have hjx : j < xs.length := by omega
            obtain ⟨cs1, ce1⟩ := comp_kid ax hjx
            have hkl := hlim (j + 1)
            have hsucc := jS_succ ax hjx
            have hsl := hlim j
            rw [← hs] at hsl
            have hvl := right_lim (right_kid ax (List.getElem_mem hjx)) (by have := maxLs_mem (List.getElem_mem hjx); rw [maxL] at hmx; omega) false 0 0 (by omega) (by omega)
            have hif : (if j = 0 then ([] : Str) else [44]).length = if j = 0 then 0 else 1 := by split <;> rfl
            refine c_ift rfl ?_
            refine c_skip ?_
            refine e_seq ?_
            refine c_seq ?_
            refine c_block ?_
            refine c_seq ?_
            refine c_seq ?_
            refine c_region ?_
            refine o_val (v := .int .i64 ((j : Int))) (x_move rfl) ?_
            refine o_val (v := .bool (decide ((0 : Int) < ((j : Int) : Int)))) (x_gtr rfl rfl) ?_
            refine o_nil ?_
            refine e_seq ?_
            refine c_splitd (d := 46) (p := (0 : Int) < ((j : Int) : Int)) rfl (fun hc2 => ?_) (fun hc2 => ?_)
            ·
              refine c_ift rfl ?_
              refine c_region ?_
              refine o_val (v := .string (bs (s))) (x_move rfl) ?_
              refine o_val (v := .string (bs ((s) ++ ([44])))) (x_cat rfl rfl (by (try simp only [List.length_append, List.length_cons, List.length_nil]); omega)) ?_
              refine o_val (v := .string (bs ((s) ++ ([44])))) (x_assign rfl) ?_
              refine o_nil ?_
              refine e_seq ?_
              refine c_seq ?_
              refine c_seq ?_
              refine c_region ?_
              refine o_val (v := .pointer (some ⟨b1, 0, none⟩)) (x_fieldAddrO fa_25_0 rfl) ?_
              refine o_val (v := .int .i64 (k)) (x_load Tryz.isAgg3 rfl (hF.cell 0 rfl rfl)) ?_
              refine o_val (v := .bool (decide ((k : Int) = (6 : Int)))) (x_eql rfl rfl) ?_
              refine o_nil ?_
              refine e_seq ?_
              refine c_splitd (d := 51) (p := (k : Int) = (6 : Int)) rfl (fun hc3 => ?_) (fun hc3 => ?_)
              ·
                obtain ⟨-, hjk, hsx⟩ : k = 6 ∧ ∃ h : j < ks.length, jS k ks xs (j + 1) = jS k ks xs j ++ ((if j = 0 then [] else [44]) ++ (qS ks[j] ++ ([58] ++ valS false 0 xs[j] 0))) := hsucc.resolve_right (fun h => h.1 (by omega))
                have hql : (qS ks[j]).length ≤ 6291458 := Nat.le_trans (qS_length _) (by have := maxKs_mem (List.getElem_mem hjk); rw [maxL] at hmx; omega)
                obtain ⟨cl1, cl2⟩ := comp_leaf ((right_keys ax (by omega)).2 ks[j] (List.getElem_mem hjk))
                refine c_ift rfl ?_
                refine c_seq ?_
                refine c_region ?_
                refine o_val (v := .pointer (some ⟨b1, 2, none⟩)) (x_fieldAddrO fa_25_2 rfl) ?_
                refine o_val (v := .slice (A) (ks.length) (c)) (x_load Tryz.isAgg22 rfl (hF.cell 0 rfl rfl)) ?_
                refine o_val (v := .int .i64 ((j : Int))) (x_move rfl) ?_
                obtain ⟨ad3, hA3, hk3, hx3⟩ := hK.str_elem (i := j) (by omega)
                refine o_val (v := .pointer (some (ad3.add (j * 1)))) (x_indexAddrA (i := (j : Int)) sl_22 rfl hA3 rfl (by omega) (by omega)) ?_
                refine o_val (v := .string (bs (ks[j]))) (x_load Tryz.isAgg9 rfl (hF.cell0 hk3)) ?_
                refine o_call (of_c ks[j] _) (x_call1 en_25 rfl rfl) ?_
                rintro _ w ⟨rfl, hE⟩
                replace hF := hF.ext hE
                clear hE
                refine o_call (comp_c (.node 4 ks[j] [] []) _ _ [.int .i64 4, .string (bs ks[j]), .slice none 0 0, .slice none 0 0] (leaf_rep (S := fun _ => True) (Nat.le_trans (maxKs_mem (List.getElem_mem (by omega))) (by rw [maxL] at hmx; omega))) (hG.ext hF.same) (by simp [sizeT, sizeTs]) (by have := maxKs_mem (List.getElem_mem (show j < ks.length by omega)); simp only [maxL, maxKs, maxLs]; rw [maxL] at hmx; omega)) (x_call1 en_16 rfl rfl) ?_
                rintro _ w ⟨rfl, hE⟩
                rw [cl1, cl2]
                replace hF := hF.ext hE
                clear hE
                refine o_val (v := .tuple #[.string (bs (qS ks[j])), .int .i64 (0)]) (x_move rfl) ?_
                refine o_val (v := .string (bs (qS ks[j]))) (x_extract rfl rfl) ?_
                refine o_val (v := .int .i64 (0)) (x_extract rfl rfl) ?_
                refine o_val (v := .string (bs (qS ks[j]))) (x_assign rfl) ?_
                refine o_val (v := .int .i64 (0)) (x_assign rfl) ?_
                refine o_nil ?_
                refine e_seq ?_
                refine c_seq ?_
                refine c_seq ?_
                refine c_region ?_
                refine o_val (v := .int .i64 (0)) (x_move rfl) ?_
                refine o_val (v := .bool false) (run_false (x_neq rfl rfl) (by omega)) ?_
                refine o_nil ?_
                refine e_seq ?_
                refine c_iff rfl ?_
                refine c_skip ?_
                refine e_seq ?_
                refine c_region ?_
                refine o_val (v := .string (bs ((s) ++ ([44])))) (x_move rfl) ?_
                refine o_val (v := .string (bs (qS ks[j]))) (x_move rfl) ?_
                refine o_val (v := .string (bs (((s) ++ ([44])) ++ (qS ks[j])))) (x_cat rfl rfl (by (try simp only [List.length_append, List.length_cons, List.length_nil]); omega)) ?_
                refine o_val (v := .string (bs ((((s) ++ ([44])) ++ (qS ks[j])) ++ ([58])))) (x_cat rfl rfl (by (try simp only [List.length_append, List.length_cons, List.length_nil]); omega)) ?_
                refine o_val (v := .string (bs ((((s) ++ ([44])) ++ (qS ks[j])) ++ ([58])))) (x_assign rfl) ?_
                refine o_nil ?_
                refine e_seq ?_
                refine c_seq ?_
                refine c_region ?_
                refine o_val (v := .pointer (some ⟨b1, 3, none⟩)) (x_fieldAddrO fa_25_3 rfl) ?_
                refine o_val (v := .slice (B) (xs.length) (e)) (x_load Tryz.isAgg23 rfl (hF.cell 0 rfl rfl)) ?_
                refine o_val (v := .int .i64 ((j : Int))) (x_move rfl) ?_
                obtain ⟨ad4, cs4, hA4, hl4, hk4, hx4⟩ := hX.tree_elem (i := j) (by omega)
                have ho4 := hx4.one_
                refine o_val (v := .pointer (some (ad4.add (j * 4)))) (x_indexAddrA (i := (j : Int)) sl_23 rfl hA4 rfl (by omega) (by omega)) ?_
                refine o_val (v := .agg (List.toArray cs4)) (x_loadS (l := cs4) Tryz.isAgg25 Tryz.sizeOf25 rfl hl4 (hF.cells0 hk4)) ?_
                refine o_call (comp_c xs[j] _ _ cs4 (hF.rep hx4) (hG.ext hF.same) (by have := sizeTs_mem (List.getElem_mem hjx); rw [sizeT] at hsz; omega) (by have := maxLs_mem (List.getElem_mem hjx); rw [maxL] at hmx; omega)) (x_call1 en_16 rfl rfl) ?_
                rintro _ w ⟨rfl, hE⟩
                rw [cs1, ce1]
                replace hF := hF.ext hE
                clear hE
                refine o_val (v := .tuple #[.string (bs (valS false 0 xs[j] 0)), .int .i64 (0)]) (x_move rfl) ?_
                refine o_val (v := .string (bs (valS false 0 xs[j] 0))) (x_extract rfl rfl) ?_
                refine o_val (v := .int .i64 (0)) (x_extract rfl rfl) ?_
                refine o_val (v := .string (bs (valS false 0 xs[j] 0))) (x_assign rfl) ?_
                refine o_val (v := .int .i64 (0)) (x_assign rfl) ?_
                refine o_nil ?_
                refine e_seq ?_
                refine c_seq ?_
                refine c_seq ?_
                refine c_region ?_
                refine o_val (v := .int .i64 (0)) (x_move rfl) ?_
                refine o_val (v := .bool false) (run_false (x_neq rfl rfl) (by omega)) ?_
                refine o_nil ?_
                refine e_seq ?_
                refine c_iff rfl ?_
                refine c_skip ?_
                refine e_seq ?_
                refine c_region ?_
                refine o_val (v := .string (bs ((((s) ++ ([44])) ++ (qS ks[j])) ++ ([58])))) (x_move rfl) ?_
                refine o_val (v := .string (bs (valS false 0 xs[j] 0))) (x_move rfl) ?_
                refine o_val (v := .string (bs (((((s) ++ ([44])) ++ (qS ks[j])) ++ ([58])) ++ (valS false 0 xs[j] 0)))) (x_cat rfl rfl (by (try simp only [List.length_append, List.length_cons, List.length_nil]); omega)) ?_
                refine o_val (v := .string (bs (((((s) ++ ([44])) ++ (qS ks[j])) ++ ([58])) ++ (valS false 0 xs[j] 0)))) (x_assign rfl) ?_
                refine o_nil ?_
                refine e_block ?_
                refine e_seq ?_
                refine c_region ?_
                refine o_val (v := .int .i64 ((j : Int))) (x_move rfl) ?_
                refine o_val (v := .int .i64 (((j + 1 : Nat) : Int))) (x_add rfl rfl (wrap_to (by omega) (by omega) (by omega))) ?_
                refine o_val (v := .int .i64 (((j + 1 : Nat) : Int))) (x_assign rfl) ?_
                refine o_nil ?_
                refine e_inv ⟨_, ?_, j + 1, ((((s) ++ ([44])) ++ (qS ks[j])) ++ ([58])) ++ (valS false 0 xs[j] 0), rfl, (hjx), (by rw [hsx, ← hs]; first | (have h0 : ¬ j = 0 := (by omega); rw [if_neg h0]; simp [List.append_assoc]; done) | (have h0 : j = 0 := (by omega); rw [if_pos h0]; simp [List.append_assoc]; done)), ⟨rfl, rfl, rfl, rfl, rfl, trivial⟩, hF⟩
                omega
              ·
                have hsx : jS k ks xs (j + 1) = jS k ks xs j ++ ((if j = 0 then [] else [44]) ++ valS false 0 xs[j] 0) := (hsucc.resolve_left (fun h => absurd h.1 (by omega))).2
                refine c_iff rfl ?_
                refine c_skip ?_
                refine e_seq ?_
                refine c_seq ?_
                refine c_region ?_
                refine o_val (v := .pointer (some ⟨b1, 3, none⟩)) (x_fieldAddrO fa_25_3 rfl) ?_
                refine o_val (v := .slice (B) (xs.length) (e)) (x_load Tryz.isAgg23 rfl (hF.cell 0 rfl rfl)) ?_
                refine o_val (v := .int .i64 ((j : Int))) (x_move rfl) ?_
                obtain ⟨ad5, cs5, hA5, hl5, hk5, hx5⟩ := hX.tree_elem (i := j) (by omega)
                have ho5 := hx5.one_
                refine o_val (v := .pointer (some (ad5.add (j * 4)))) (x_indexAddrA (i := (j : Int)) sl_23 rfl hA5 rfl (by omega) (by omega)) ?_
                refine o_val (v := .agg (List.toArray cs5)) (x_loadS (l := cs5) Tryz.isAgg25 Tryz.sizeOf25 rfl hl5 (hF.cells0 hk5)) ?_
                refine o_call (comp_c xs[j] _ _ cs5 (hF.rep hx5) (hG.ext hF.same) (by have := sizeTs_mem (List.getElem_mem hjx); rw [sizeT] at hsz; omega) (by have := maxLs_mem (List.getElem_mem hjx); rw [maxL] at hmx; omega)) (x_call1 en_16 rfl rfl) ?_
                rintro _ w ⟨rfl, hE⟩
                rw [cs1, ce1]
                replace hF := hF.ext hE
                clear hE
                refine o_val (v := .tuple #[.string (bs (valS false 0 xs[j] 0)), .int .i64 (0)]) (x_move rfl) ?_
                refine o_val (v := .string (bs (valS false 0 xs[j] 0))) (x_extract rfl rfl) ?_
                refine o_val (v := .int .i64 (0)) (x_extract rfl rfl) ?_
                refine o_val (v := .string (bs (valS false 0 xs[j] 0))) (x_assign rfl) ?_
                refine o_val (v := .int .i64 (0)) (x_assign rfl) ?_
                refine o_nil ?_
                refine e_seq ?_
                refine c_seq ?_
                refine c_seq ?_
                refine c_region ?_
                refine o_val (v := .int .i64 (0)) (x_move rfl) ?_
                refine o_val (v := .bool false) (run_false (x_neq rfl rfl) (by omega)) ?_
                refine o_nil ?_
                refine e_seq ?_
                refine c_iff rfl ?_
                refine c_skip ?_
                refine e_seq ?_
                refine c_region ?_
                refine o_val (v := .string (bs ((s) ++ ([44])))) (x_move rfl) ?_
                refine o_val (v := .string (bs (valS false 0 xs[j] 0))) (x_move rfl) ?_
                refine o_val (v := .string (bs (((s) ++ ([44])) ++ (valS false 0 xs[j] 0)))) (x_cat rfl rfl (by (try simp only [List.length_append, List.length_cons, List.length_nil]); omega)) ?_
                refine o_val (v := .string (bs (((s) ++ ([44])) ++ (valS false 0 xs[j] 0)))) (x_assign rfl) ?_
                refine o_nil ?_
                refine e_block ?_
                refine e_seq ?_
                refine c_region ?_
                refine o_val (v := .int .i64 ((j : Int))) (x_move rfl) ?_
                refine o_val (v := .int .i64 (((j + 1 : Nat) : Int))) (x_add rfl rfl (wrap_to (by omega) (by omega) (by omega))) ?_
                refine o_val (v := .int .i64 (((j + 1 : Nat) : Int))) (x_assign rfl) ?_
                refine o_nil ?_
                refine e_inv ⟨_, ?_, j + 1, ((s) ++ ([44])) ++ (valS false 0 xs[j] 0), rfl, (hjx), (by rw [hsx, ← hs]; first | (have h0 : ¬ j = 0 := (by omega); rw [if_neg h0]; simp [List.append_assoc]; done) | (have h0 : j = 0 := (by omega); rw [if_pos h0]; simp [List.append_assoc]; done)), ⟨rfl, rfl, rfl, rfl, rfl, trivial⟩, hF⟩
                omega
            ·
              refine c_iff rfl ?_
              refine c_skip ?_
              refine e_seq ?_
              refine c_seq ?_
              refine c_seq ?_
              refine c_region ?_
              refine o_val (v := .pointer (some ⟨b1, 0, none⟩)) (x_fieldAddrO fa_25_0 rfl) ?_
              refine o_val (v := .int .i64 (k)) (x_load Tryz.isAgg3 rfl (hF.cell 0 rfl rfl)) ?_
              refine o_val (v := .bool (decide ((k : Int) = (6 : Int)))) (x_eql rfl rfl) ?_
              refine o_nil ?_
              refine e_seq ?_
              refine c_splitd (d := 51) (p := (k : Int) = (6 : Int)) rfl (fun hc3 => ?_) (fun hc3 => ?_)
              ·
                obtain ⟨-, hjk, hsx⟩ : k = 6 ∧ ∃ h : j < ks.length, jS k ks xs (j + 1) = jS k ks xs j ++ ((if j = 0 then [] else [44]) ++ (qS ks[j] ++ ([58] ++ valS false 0 xs[j] 0))) := hsucc.resolve_right (fun h => h.1 (by omega))
                have hql : (qS ks[j]).length ≤ 6291458 := Nat.le_trans (qS_length _) (by have := maxKs_mem (List.getElem_mem hjk); rw [maxL] at hmx; omega)
                obtain ⟨cl1, cl2⟩ := comp_leaf ((right_keys ax (by omega)).2 ks[j] (List.getElem_mem hjk))
                refine c_ift rfl ?_
                refine c_seq ?_
                refine c_region ?_
                refine o_val (v := .pointer (some ⟨b1, 2, none⟩)) (x_fieldAddrO fa_25_2 rfl) ?_
                refine o_val (v := .slice (A) (ks.length) (c)) (x_load Tryz.isAgg22 rfl (hF.cell 0 rfl rfl)) ?_
                refine o_val (v := .int .i64 ((j : Int))) (x_move rfl) ?_
                obtain ⟨ad6, hA6, hk6, hx6⟩ := hK.str_elem (i := j) (by omega)
                refine o_val (v := .pointer (some (ad6.add (j * 1)))) (x_indexAddrA (i := (j : Int)) sl_22 rfl hA6 rfl (by omega) (by omega)) ?_
                refine o_val (v := .string (bs (ks[j]))) (x_load Tryz.isAgg9 rfl (hF.cell0 hk6)) ?_
                refine o_call (of_c ks[j] _) (x_call1 en_25 rfl rfl) ?_
                rintro _ w ⟨rfl, hE⟩
                replace hF := hF.ext hE
                clear hE
                refine o_call (comp_c (.node 4 ks[j] [] []) _ _ [.int .i64 4, .string (bs ks[j]), .slice none 0 0, .slice none 0 0] (leaf_rep (S := fun _ => True) (Nat.le_trans (maxKs_mem (List.getElem_mem (by omega))) (by rw [maxL] at hmx; omega))) (hG.ext hF.same) (by simp [sizeT, sizeTs]) (by have := maxKs_mem (List.getElem_mem (show j < ks.length by omega)); simp only [maxL, maxKs, maxLs]; rw [maxL] at hmx; omega)) (x_call1 en_16 rfl rfl) ?_
                rintro _ w ⟨rfl, hE⟩
                rw [cl1, cl2]
                replace hF := hF.ext hE
                clear hE
                refine o_val (v := .tuple #[.string (bs (qS ks[j])), .int .i64 (0)]) (x_move rfl) ?_
                refine o_val (v := .string (bs (qS ks[j]))) (x_extract rfl rfl) ?_
                refine o_val (v := .int .i64 (0)) (x_extract rfl rfl) ?_
                refine o_val (v := .string (bs (qS ks[j]))) (x_assign rfl) ?_
                refine o_val (v := .int .i64 (0)) (x_assign rfl) ?_
                refine o_nil ?_
                refine e_seq ?_
                refine c_seq ?_
                refine c_seq ?_
                refine c_region ?_
                refine o_val (v := .int .i64 (0)) (x_move rfl) ?_
                refine o_val (v := .bool false) (run_false (x_neq rfl rfl) (by omega)) ?_
                refine o_nil ?_
                refine e_seq ?_
                refine c_iff rfl ?_
                refine c_skip ?_
                refine e_seq ?_
                refine c_region ?_
                refine o_val (v := .string (bs (s))) (x_move rfl) ?_
                refine o_val (v := .string (bs (qS ks[j]))) (x_move rfl) ?_
                refine o_val (v := .string (bs ((s) ++ (qS ks[j])))) (x_cat rfl rfl (by (try simp only [List.length_append, List.length_cons, List.length_nil]); omega)) ?_
                refine o_val (v := .string (bs (((s) ++ (qS ks[j])) ++ ([58])))) (x_cat rfl rfl (by (try simp only [List.length_append, List.length_cons, List.length_nil]); omega)) ?_
                refine o_val (v := .string (bs (((s) ++ (qS ks[j])) ++ ([58])))) (x_assign rfl) ?_
                refine o_nil ?_
                refine e_seq ?_
                refine c_seq ?_
                refine c_region ?_
                refine o_val (v := .pointer (some ⟨b1, 3, none⟩)) (x_fieldAddrO fa_25_3 rfl) ?_
                refine o_val (v := .slice (B) (xs.length) (e)) (x_load Tryz.isAgg23 rfl (hF.cell 0 rfl rfl)) ?_
                refine o_val (v := .int .i64 ((j : Int))) (x_move rfl) ?_
                obtain ⟨ad7, cs7, hA7, hl7, hk7, hx7⟩ := hX.tree_elem (i := j) (by omega)
                have ho7 := hx7.one_
                refine o_val (v := .pointer (some (ad7.add (j * 4)))) (x_indexAddrA (i := (j : Int)) sl_23 rfl hA7 rfl (by omega) (by omega)) ?_
                refine o_val (v := .agg (List.toArray cs7)) (x_loadS (l := cs7) Tryz.isAgg25 Tryz.sizeOf25 rfl hl7 (hF.cells0 hk7)) ?_
                refine o_call (comp_c xs[j] _ _ cs7 (hF.rep hx7) (hG.ext hF.same) (by have := sizeTs_mem (List.getElem_mem hjx); rw [sizeT] at hsz; omega) (by have := maxLs_mem (List.getElem_mem hjx); rw [maxL] at hmx; omega)) (x_call1 en_16 rfl rfl) ?_
                rintro _ w ⟨rfl, hE⟩
                rw [cs1, ce1]
                replace hF := hF.ext hE
                clear hE
                refine o_val (v := .tuple #[.string (bs (valS false 0 xs[j] 0)), .int .i64 (0)]) (x_move rfl) ?_
                refine o_val (v := .string (bs (valS false 0 xs[j] 0))) (x_extract rfl rfl) ?_
                refine o_val (v := .int .i64 (0)) (x_extract rfl rfl) ?_
                refine o_val (v := .string (bs (valS false 0 xs[j] 0))) (x_assign rfl) ?_
                refine o_val (v := .int .i64 (0)) (x_assign rfl) ?_
                refine o_nil ?_
                refine e_seq ?_
                refine c_seq ?_
                refine c_seq ?_
                refine c_region ?_
                refine o_val (v := .int .i64 (0)) (x_move rfl) ?_
                refine o_val (v := .bool false) (run_false (x_neq rfl rfl) (by omega)) ?_
                refine o_nil ?_
                refine e_seq ?_
                refine c_iff rfl ?_
                refine c_skip ?_
                refine e_seq ?_
                refine c_region ?_
                refine o_val (v := .string (bs (((s) ++ (qS ks[j])) ++ ([58])))) (x_move rfl) ?_
                refine o_val (v := .string (bs (valS false 0 xs[j] 0))) (x_move rfl) ?_
                refine o_val (v := .string (bs ((((s) ++ (qS ks[j])) ++ ([58])) ++ (valS false 0 xs[j] 0)))) (x_cat rfl rfl (by (try simp only [List.length_append, List.length_cons, List.length_nil]); omega)) ?_
                refine o_val (v := .string (bs ((((s) ++ (qS ks[j])) ++ ([58])) ++ (valS false 0 xs[j] 0)))) (x_assign rfl) ?_
                refine o_nil ?_
                refine e_block ?_
                refine e_seq ?_
                refine c_region ?_
                refine o_val (v := .int .i64 ((j : Int))) (x_move rfl) ?_
                refine o_val (v := .int .i64 (((j + 1 : Nat) : Int))) (x_add rfl rfl (wrap_to (by omega) (by omega) (by omega))) ?_
                refine o_val (v := .int .i64 (((j + 1 : Nat) : Int))) (x_assign rfl) ?_
                refine o_nil ?_
                refine e_inv ⟨_, ?_, j + 1, (((s) ++ (qS ks[j])) ++ ([58])) ++ (valS false 0 xs[j] 0), rfl, (hjx), (by rw [hsx, ← hs]; first | (have h0 : ¬ j = 0 := (by omega); rw [if_neg h0]; simp [List.append_assoc]; done) | (have h0 : j = 0 := (by omega); rw [if_pos h0]; simp [List.append_assoc]; done)), ⟨rfl, rfl, rfl, rfl, rfl, trivial⟩, hF⟩
                omega
              ·
                have hsx : jS k ks xs (j + 1) = jS k ks xs j ++ ((if j = 0 then [] else [44]) ++ valS false 0 xs[j] 0) := (hsucc.resolve_left (fun h => absurd h.1 (by omega))).2
                refine c_iff rfl ?_
                refine c_skip ?_
                refine e_seq ?_
                refine c_seq ?_
                refine c_region ?_
                refine o_val (v := .pointer (some ⟨b1, 3, none⟩)) (x_fieldAddrO fa_25_3 rfl) ?_
                refine o_val (v := .slice (B) (xs.length) (e)) (x_load Tryz.isAgg23 rfl (hF.cell 0 rfl rfl)) ?_
                refine o_val (v := .int .i64 ((j : Int))) (x_move rfl) ?_
                obtain ⟨ad8, cs8, hA8, hl8, hk8, hx8⟩ := hX.tree_elem (i := j) (by omega)
                have ho8 := hx8.one_
                refine o_val (v := .pointer (some (ad8.add (j * 4)))) (x_indexAddrA (i := (j : Int)) sl_23 rfl hA8 rfl (by omega) (by omega)) ?_
                refine o_val (v := .agg (List.toArray cs8)) (x_loadS (l := cs8) Tryz.isAgg25 Tryz.sizeOf25 rfl hl8 (hF.cells0 hk8)) ?_
                refine o_call (comp_c xs[j] _ _ cs8 (hF.rep hx8) (hG.ext hF.same) (by have := sizeTs_mem (List.getElem_mem hjx); rw [sizeT] at hsz; omega) (by have := maxLs_mem (List.getElem_mem hjx); rw [maxL] at hmx; omega)) (x_call1 en_16 rfl rfl) ?_
                rintro _ w ⟨rfl, hE⟩
                rw [cs1, ce1]
                replace hF := hF.ext hE
                clear hE
                refine o_val (v := .tuple #[.string (bs (valS false 0 xs[j] 0)), .int .i64 (0)]) (x_move rfl) ?_
                refine o_val (v := .string (bs (valS false 0 xs[j] 0))) (x_extract rfl rfl) ?_
                refine o_val (v := .int .i64 (0)) (x_extract rfl rfl) ?_
                refine o_val (v := .string (bs (valS false 0 xs[j] 0))) (x_assign rfl) ?_
                refine o_val (v := .int .i64 (0)) (x_assign rfl) ?_
                refine o_nil ?_
                refine e_seq ?_
                refine c_seq ?_
                refine c_seq ?_
                refine c_region ?_
                refine o_val (v := .int .i64 (0)) (x_move rfl) ?_
                refine o_val (v := .bool false) (run_false (x_neq rfl rfl) (by omega)) ?_
                refine o_nil ?_
                refine e_seq ?_
                refine c_iff rfl ?_
                refine c_skip ?_
                refine e_seq ?_
                refine c_region ?_
                refine o_val (v := .string (bs (s))) (x_move rfl) ?_
                refine o_val (v := .string (bs (valS false 0 xs[j] 0))) (x_move rfl) ?_
                refine o_val (v := .string (bs ((s) ++ (valS false 0 xs[j] 0)))) (x_cat rfl rfl (by (try simp only [List.length_append, List.length_cons, List.length_nil]); omega)) ?_
                refine o_val (v := .string (bs ((s) ++ (valS false 0 xs[j] 0)))) (x_assign rfl) ?_
                refine o_nil ?_
                refine e_block ?_
                refine e_seq ?_
                refine c_region ?_
                refine o_val (v := .int .i64 ((j : Int))) (x_move rfl) ?_
                refine o_val (v := .int .i64 (((j + 1 : Nat) : Int))) (x_add rfl rfl (wrap_to (by omega) (by omega) (by omega))) ?_
                refine o_val (v := .int .i64 (((j + 1 : Nat) : Int))) (x_assign rfl) ?_
                refine o_nil ?_
                refine e_inv ⟨_, ?_, j + 1, (s) ++ (valS false 0 xs[j] 0), rfl, (hjx), (by rw [hsx, ← hs]; first | (have h0 : ¬ j = 0 := (by omega); rw [if_neg h0]; simp [List.append_assoc]; done) | (have h0 : j = 0 := (by omega); rw [if_pos h0]; simp [List.append_assoc]; done)), ⟨rfl, rfl, rfl, rfl, rfl, trivial⟩, hF⟩
                omega
          ·
            obtain rfl : j = xs.length := by omega
            have hsl := hlim xs.length
            rw [← hs] at hsl
            refine c_iff rfl ?_
            refine c_exit (e_exit rfl ?_)
            refine e_seq ?_
            refine c_seq ?_
            refine c_seq ?_
            refine c_region ?_
            refine o_val (v := .pointer (some ⟨b1, 0, none⟩)) (x_fieldAddrO fa_25_0 rfl) ?_
            refine o_val (v := .int .i64 (k)) (x_load Tryz.isAgg3 rfl (hF.cell 0 rfl rfl)) ?_
            refine o_val (v := .bool (decide ((k : Int) = (5 : Int)))) (x_eql rfl rfl) ?_
            refine o_nil ?_
            refine e_seq ?_
            refine c_splitd (d := 84) (p := (k : Int) = (5 : Int)) rfl (fun hc6 => ?_) (fun hc6 => ?_)
            ·
              refine c_ift rfl ?_
              refine c_seq ?_
              refine c_region ?_
              refine o_val (v := .bool true) (x_move rfl) ?_
              refine o_val (v := .bool true) (x_move rfl) ?_
              refine o_val (v := .string (bs (compS (.node k t ks xs)))) (x_move rfl) ?_
              refine o_val (v := .string (bs (s))) (x_move rfl) ?_
              refine o_val (v := .string (bs (([91]) ++ (s)))) (x_cat rfl rfl (by (try simp only [List.length_append, List.length_cons, List.length_nil]); omega)) ?_
              refine o_val (v := .string (bs ((([91]) ++ (s)) ++ ([93])))) (x_cat rfl rfl (by (try simp only [List.length_append, List.length_cons, List.length_nil]); omega)) ?_
              refine o_val (v := .bool true) (run_true (x_eqls rfl rfl) (by rw [hs]; exact comp_five ax (by omega))) ?_
              refine o_val (v := .bool true) (x_pickt rfl rfl) ?_
              refine o_val (v := .bool true) (x_assign rfl) ?_
              refine o_nil ?_
              refine e_seq ?_
              refine c_ret (e_ret (post_ret (res_1 (v := .bool true) rfl rfl) ?_))
              exact ⟨rfl, hF.same⟩
            ·
              refine c_iff rfl ?_
              refine c_skip ?_
              refine e_seq ?_
              refine c_seq ?_
              refine c_region ?_
              refine o_val (v := .bool true) (x_move rfl) ?_
              refine o_val (v := .bool true) (x_move rfl) ?_
              refine o_val (v := .string (bs (compS (.node k t ks xs)))) (x_move rfl) ?_
              refine o_val (v := .string (bs (s))) (x_move rfl) ?_
              refine o_val (v := .string (bs (([123]) ++ (s)))) (x_cat rfl rfl (by (try simp only [List.length_append, List.length_cons, List.length_nil]); omega)) ?_
              refine o_val (v := .string (bs ((([123]) ++ (s)) ++ ([125])))) (x_cat rfl rfl (by (try simp only [List.length_append, List.length_cons, List.length_nil]); omega)) ?_
              refine o_val (v := .bool true) (run_true (x_eqls rfl rfl) (by rw [hs]; exact comp_six ax (by omega))) ?_
              refine o_val (v := .bool true) (x_pickt rfl rfl) ?_
              refine o_val (v := .bool true) (x_assign rfl) ?_
              refine o_nil ?_
              refine e_seq ?_
              refine c_ret (e_ret (post_ret (res_1 (v := .bool true) rfl rfl) ?_))
              exact ⟨rfl, hF.same⟩
      ·
        refine o_off ?_
        refine o_off ?_
        refine o_off ?_
        refine o_val (v := .bool false) (x_pickf rfl rfl) ?_
        refine o_val (v := .bool false) (x_pickf rfl rfl) ?_
        refine o_nil ?_
        refine e_seq ?_
        refine c_iff rfl ?_
        refine c_skip ?_
        refine e_seq ?_
        refine c_seq ?_
        refine c_region ?_
        refine o_val (v := .string (bs ([]))) (x_assign rfl) ?_
        refine o_nil ?_
        refine e_seq ?_
        refine c_seq ?_
        refine c_seq ?_
        refine c_region ?_
        refine o_val (v := .int .i64 (0)) (x_assign rfl) ?_
        refine o_nil ?_
        refine e_seq ?_
        refine c_block ?_
        have ax : rightB (.node k t ks xs) = true := comp_err (by assumption)
        have kk : k = 5 ∨ k = 6 := by omega
        have fx_ : fewB (.node k t ks xs) 300 = true := by have h := hg0; simpa using h
        have hlim := jS_le ax kk (by omega)
        refine c_loop (fun μ σ w => ∃ (j : Nat), ∃ (s : Str), μ = xs.length - j ∧ (j ≤ xs.length) ∧ (s = jS k ks xs j) ∧ AllEq σ [(1, .pointer (some ⟨b1, 0, none⟩)), (3, .bool true), (5, .string (bs (compS (.node k t ks xs)))), (7, .string (bs (s))), (8, .int .i64 ((j : Int)))] ∧ FR w0 [] [(b1, .cells #[.int .i64 (k), .string (bs (t)), .slice (A) (ks.length) (c), .slice (B) (xs.length) (e)] 25)] w) _ ⟨0, [], rfl, (Nat.zero_le _), ((jS_zero _ _ _).symm), ⟨rfl, rfl, rfl, rfl, rfl, trivial⟩, hF⟩ ?_
        clear hF; rintro μ σ w ⟨j, s, rfl, hj, hs, hs, hF⟩
        refine Cg.slots hs ?_
        clear hs; intro σ
        refine c_seq ?_
        refine c_seq ?_
        refine c_region ?_
        refine o_val (v := .int .i64 ((j : Int))) (x_move rfl) ?_
        refine o_val (v := .pointer (some ⟨b1, 3, none⟩)) (x_fieldAddrO fa_25_3 rfl) ?_
        refine o_val (v := .slice (B) (xs.length) (e)) (x_load Tryz.isAgg23 rfl (hF.cell 0 rfl rfl)) ?_
        refine o_val (v := .int .i64 ((xs.length : Nat))) (x_len_slice Tryz.underlying23 rfl) ?_
        refine o_val (v := .bool (decide (((j : Int) : Int) < ((xs.length : Nat) : Int)))) (x_lss rfl rfl) ?_
        refine o_nil ?_
        refine e_seq ?_
        refine c_splitd (d := 42) (p := ((j : Int) : Int) < ((xs.length : Nat) : Int)) rfl (fun hc1 => ?_) (fun hc1 => ?_)
        ·
          have hjx : j < xs.length := by omega
          obtain ⟨cs1, ce1⟩ := comp_kid ax hjx
          have hkl := hlim (j + 1)
          have hsucc := jS_succ ax hjx
          have hsl := hlim j
          rw [← hs] at hsl
          have hvl := right_lim (right_kid ax (List.getElem_mem hjx)) (by have := maxLs_mem (List.getElem_mem hjx); rw [maxL] at hmx; omega) false 0 0 (by omega) (by omega)
          have hif : (if j = 0 then ([] : Str) else [44]).length = if j = 0 then 0 else 1 := by split <;> rfl
          refine c_ift rfl ?_
          refine c_skip ?_
          refine e_seq ?_
          refine c_seq ?_
          refine c_block ?_
          refine c_seq ?_
          refine c_seq ?_
          refine c_region ?_
          refine o_val (v := .int .i64 ((j : Int))) (x_move rfl) ?_
          refine o_val (v := .bool (decide ((0 : Int) < ((j : Int) : Int)))) (x_gtr rfl rfl) ?_
          refine o_nil ?_
          refine e_seq ?_
          refine c_splitd (d := 46) (p := (0 : Int) < ((j : Int) : Int)) rfl (fun hc2 => ?_) (fun hc2 => ?_)
          ·
            refine c_ift rfl ?_
            refine c_region ?_
            refine o_val (v := .string (bs (s))) (x_move rfl) ?_
            refine o_val (v := .string (bs ((s) ++ ([44])))) (x_cat rfl rfl (by (try simp only [List.length_append, List.length_cons, List.length_nil]); omega)) ?_
            refine o_val (v := .string (bs ((s) ++ ([44])))) (x_assign rfl) ?_
            refine o_nil ?_
            refine e_seq ?_
            refine c_seq ?_
            refine c_seq ?_
            refine c_region ?_
            refine o_val (v := .pointer (some ⟨b1, 0, none⟩)) (x_fieldAddrO fa_25_0 rfl) ?_
            refine o_val (v := .int .i64 (k)) (x_load Tryz.isAgg3 rfl (hF.cell 0 rfl rfl)) ?_
            refine o_val (v := .bool (decide ((k : Int) = (6 : Int)))) (x_eql rfl rfl) ?_
            refine o_nil ?_
            refine e_seq ?_
            refine c_splitd (d := 51) (p := (k : Int) = (6 : Int)) rfl (fun hc3 => ?_) (fun hc3 => ?_)
            ·
              obtain ⟨-, hjk, hsx⟩ : k = 6 ∧ ∃ h : j < ks.length, jS k ks xs (j + 1) = jS k ks xs j ++ ((if j = 0 then [] else [44]) ++ (qS ks[j] ++ ([58] ++ valS false 0 xs[j] 0))) := hsucc.resolve_right (fun h => h.1 (by omega))
              have hql : (qS ks[j]).length ≤ 6291458 := Nat.le_trans (qS_length _) (by have := maxKs_mem (List.getElem_mem hjk); rw [maxL] at hmx; omega)
              obtain ⟨cl1, cl2⟩ := comp_leaf ((right_keys ax (by omega)).2 ks[j] (List.getElem_mem hjk))
              refine c_ift rfl ?_
              refine c_seq ?_
              refine c_region ?_
              refine o_val (v := .pointer (some ⟨b1, 2, none⟩)) (x_fieldAddrO fa_25_2 rfl) ?_
              refine o_val (v := .slice (A) (ks.length) (c)) (x_load Tryz.isAgg22 rfl (hF.cell 0 rfl rfl)) ?_
              refine o_val (v := .int .i64 ((j : Int))) (x_move rfl) ?_
              obtain ⟨ad9, hA9, hk9, hx9⟩ := hK.str_elem (i := j) (by omega)
              refine o_val (v := .pointer (some (ad9.add (j * 1)))) (x_indexAddrA (i := (j : Int)) sl_22 rfl hA9 rfl (by omega) (by omega)) ?_
              refine o_val (v := .string (bs (ks[j]))) (x_load Tryz.isAgg9 rfl (hF.cell0 hk9)) ?_
              refine o_call (of_c ks[j] _) (x_call1 en_25 rfl rfl) ?_
              rintro _ w ⟨rfl, hE⟩
              replace hF := hF.ext hE
              clear hE
              refine o_call (comp_c (.node 4 ks[j] [] []) _ _ [.int .i64 4, .string (bs ks[j]), .slice none 0 0, .slice none 0 0] (leaf_rep (S := fun _ => True) (Nat.le_trans (maxKs_mem (List.getElem_mem (by omega))) (by rw [maxL] at hmx; omega))) (hG.ext hF.same) (by simp [sizeT, sizeTs]) (by have := maxKs_mem (List.getElem_mem (show j < ks.length by omega)); simp only [maxL, maxKs, maxLs]; rw [maxL] at hmx; omega)) (x_call1 en_16 rfl rfl) ?_
              rintro _ w ⟨rfl, hE⟩
              rw [cl1, cl2]
              replace hF := hF.ext hE
              clear hE
              refine o_val (v := .tuple #[.string (bs (qS ks[j])), .int .i64 (0)]) (x_move rfl) ?_
              refine o_val (v := .string (bs (qS ks[j]))) (x_extract rfl rfl) ?_
              refine o_val (v := .int .i64 (0)) (x_extract rfl rfl) ?_
              refine o_val (v := .string (bs (qS ks[j]))) (x_assign rfl) ?_
              refine o_val (v := .int .i64 (0)) (x_assign rfl) ?_
              refine o_nil ?_
              refine e_seq ?_
              refine c_seq ?_
              refine c_seq ?_
              refine c_region ?_
              refine o_val (v := .int .i64 (0)) (x_move rfl) ?_
              refine o_val (v := .bool false) (run_false (x_neq rfl rfl) (by omega)) ?_
              refine o_nil ?_
              refine e_seq ?_
              refine c_iff rfl ?_
              refine c_skip ?_
              refine e_seq ?_
              refine c_region ?_
              refine o_val (v := .string (bs ((s) ++ ([44])))) (x_move rfl) ?_
              refine o_val (v := .string (bs (qS ks[j]))) (x_move rfl) ?_
              refine o_val (v := .string (bs (((s) ++ ([44])) ++ (qS ks[j])))) (x_cat rfl rfl (by (try simp only [List.length_append, List.length_cons, List.length_nil]); omega)) ?_
              refine o_val (v := .string (bs ((((s) ++ ([44])) ++ (qS ks[j])) ++ ([58])))) (x_cat rfl rfl (by (try simp only [List.length_append, List.length_cons, List.length_nil]); omega)) ?_
              refine o_val (v := .string (bs ((((s) ++ ([44])) ++ (qS ks[j])) ++ ([58])))) (x_assign rfl) ?_
              refine o_nil ?_
              refine e_seq ?_
              refine c_seq ?_
              refine c_region ?_
              refine o_val (v := .pointer (some ⟨b1, 3, none⟩)) (x_fieldAddrO fa_25_3 rfl) ?_
              refine o_val (v := .slice (B) (xs.length) (e)) (x_load Tryz.isAgg23 rfl (hF.cell 0 rfl rfl)) ?_
              refine o_val (v := .int .i64 ((j : Int))) (x_move rfl) ?_
              obtain ⟨ad10, cs10, hA10, hl10, hk10, hx10⟩ := hX.tree_elem (i := j) (by omega)
              have ho10 := hx10.one_
              refine o_val (v := .pointer (some (ad10.add (j * 4)))) (x_indexAddrA (i := (j : Int)) sl_23 rfl hA10 rfl (by omega) (by omega)) ?_
              refine o_val (v := .agg (List.toArray cs10)) (x_loadS (l := cs10) Tryz.isAgg25 Tryz.sizeOf25 rfl hl10 (hF.cells0 hk10)) ?_
              refine o_call (comp_c xs[j] _ _ cs10 (hF.rep hx10) (hG.ext hF.same) (by have := sizeTs_mem (List.getElem_mem hjx); rw [sizeT] at hsz; omega) (by have := maxLs_mem (List.getElem_mem hjx); rw [maxL] at hmx; omega)) (x_call1 en_16 rfl rfl) ?_
              rintro _ w ⟨rfl, hE⟩
              rw [cs1, ce1]
              replace hF := hF.ext hE
              clear hE
              refine o_val (v := .tuple #[.string (bs (valS false 0 xs[j] 0)), .int .i64 (0)]) (x_move rfl) ?_
              refine o_val (v := .string (bs (valS false 0 xs[j] 0))) (x_extract rfl rfl) ?_
              refine o_val (v := .int .i64 (0)) (x_extract rfl rfl) ?_
              refine o_val (v := .string (bs (valS false 0 xs[j] 0))) (x_assign rfl) ?_
              refine o_val (v := .int .i64 (0)) (x_assign rfl) ?_
              refine o_nil ?_
              refine e_seq ?_
              refine c_seq ?_
              refine c_seq ?_
              refine c_region ?_
              refine o_val (v := .int .i64 (0)) (x_move rfl) ?_
              refine o_val (v := .bool false) (run_false (x_neq rfl rfl) (by omega)) ?_
              refine o_nil ?_
              refine e_seq ?_
              refine c_iff rfl ?_
              refine c_skip ?_
              refine e_seq ?_
              refine c_region ?_
              refine o_val (v := .string (bs ((((s) ++ ([44])) ++ (qS ks[j])) ++ ([58])))) (x_move rfl) ?_
              refine o_val (v := .string (bs (valS false 0 xs[j] 0))) (x_move rfl) ?_
              refine o_val (v := .string (bs (((((s) ++ ([44])) ++ (qS ks[j])) ++ ([58])) ++ (valS false 0 xs[j] 0)))) (x_cat rfl rfl (by (try simp only [List.length_append, List.length_cons, List.length_nil]); omega)) ?_
              refine o_val (v := .string (bs (((((s) ++ ([44])) ++ (qS ks[j])) ++ ([58])) ++ (valS false 0 xs[j] 0)))) (x_assign rfl) ?_
              refine o_nil ?_
              refine e_block ?_
              refine e_seq ?_
              refine c_region ?_
              refine o_val (v := .int .i64 ((j : Int))) (x_move rfl) ?_
              refine o_val (v := .int .i64 (((j + 1 : Nat) : Int))) (x_add rfl rfl (wrap_to (by omega) (by omega) (by omega))) ?_
              refine o_val (v := .int .i64 (((j + 1 : Nat) : Int))) (x_assign rfl) ?_
              refine o_nil ?_
              refine e_inv ⟨_, ?_, j + 1, ((((s) ++ ([44])) ++ (qS ks[j])) ++ ([58])) ++ (valS false 0 xs[j] 0), rfl, (hjx), (by rw [hsx, ← hs]; first | (have h0 : ¬ j = 0 := (by omega); rw [if_neg h0]; simp [List.append_assoc]; done) | (have h0 : j = 0 := (by omega); rw [if_pos h0]; simp [List.append_assoc]; done)), ⟨rfl, rfl, rfl, rfl, rfl, trivial⟩, hF⟩
              omega
            ·
              have hsx : jS k ks xs (j + 1) = jS k ks xs j ++ ((if j = 0 then [] else [44]) ++ valS false 0 xs[j] 0) := (hsucc.resolve_left (fun h => absurd h.1 (by omega))).2
              refine c_iff rfl ?_
              refine c_skip ?_
              refine e_seq ?_
              refine c_seq ?_
              refine c_region ?_
              refine o_val (v := .pointer (some ⟨b1, 3, none⟩)) (x_fieldAddrO fa_25_3 rfl) ?_
              refine o_val (v := .slice (B) (xs.length) (e)) (x_load Tryz.isAgg23 rfl (hF.cell 0 rfl rfl)) ?_
              refine o_val (v := .int .i64 ((j : Int))) (x_move rfl) ?_
              obtain ⟨ad11, cs11, hA11, hl11, hk11, hx11⟩ := hX.tree_elem (i := j) (by omega)
              have ho11 := hx11.one_
              refine o_val (v := .pointer (some (ad11.add (j * 4)))) (x_indexAddrA (i := (j : Int)) sl_23 rfl hA11 rfl (by omega) (by omega)) ?_
              refine o_val (v := .agg (List.toArray cs11)) (x_loadS (l := cs11) Tryz.isAgg25 Tryz.sizeOf25 rfl hl11 (hF.cells0 hk11)) ?_
              refine o_call (comp_c xs[j] _ _ cs11 (hF.rep hx11) (hG.ext hF.same) (by have := sizeTs_mem (List.getElem_mem hjx); rw [sizeT] at hsz; omega) (by have := maxLs_mem (List.getElem_mem hjx); rw [maxL] at hmx; omega)) (x_call1 en_16 rfl rfl) ?_
              rintro _ w ⟨rfl, hE⟩
              rw [cs1, ce1]
              replace hF := hF.ext hE
              clear hE
              refine o_val (v := .tuple #[.string (bs (valS false 0 xs[j] 0)), .int .i64 (0)]) (x_move rfl) ?_
              refine o_val (v := .string (bs (valS false 0 xs[j] 0))) (x_extract rfl rfl) ?_
              refine o_val (v := .int .i64 (0)) (x_extract rfl rfl) ?_
              refine o_val (v := .string (bs (valS false 0 xs[j] 0))) (x_assign rfl) ?_
              refine o_val (v := .int .i64 (0)) (x_assign rfl) ?_
              refine o_nil ?_
              refine e_seq ?_
              refine c_seq ?_
              refine c_seq ?_
              refine c_region ?_
              refine o_val (v := .int .i64 (0)) (x_move rfl) ?_
              refine o_val (v := .bool false) (run_false (x_neq rfl rfl) (by omega)) ?_
              refine o_nil ?_
              refine e_seq ?_
              refine c_iff rfl ?_
              refine c_skip ?_
              refine e_seq ?_
              refine c_region ?_
              refine o_val (v := .string (bs ((s) ++ ([44])))) (x_move rfl) ?_
              refine o_val (v := .string (bs (valS false 0 xs[j] 0))) (x_move rfl) ?_
              refine o_val (v := .string (bs (((s) ++ ([44])) ++ (valS false 0 xs[j] 0)))) (x_cat rfl rfl (by (try simp only [List.length_append, List.length_cons, List.length_nil]); omega)) ?_
              refine o_val (v := .string (bs (((s) ++ ([44])) ++ (valS false 0 xs[j] 0)))) (x_assign rfl) ?_
              refine o_nil ?_
              refine e_block ?_
              refine e_seq ?_
              refine c_region ?_
              refine o_val (v := .int .i64 ((j : Int))) (x_move rfl) ?_
              refine o_val (v := .int .i64 (((j + 1 : Nat) : Int))) (x_add rfl rfl (wrap_to (by omega) (by omega) (by omega))) ?_
              refine o_val (v := .int .i64 (((j + 1 : Nat) : Int))) (x_assign rfl) ?_
              refine o_nil ?_
              refine e_inv ⟨_, ?_, j + 1, ((s) ++ ([44])) ++ (valS false 0 xs[j] 0), rfl, (hjx), (by rw [hsx, ← hs]; first | (have h0 : ¬ j = 0 := (by omega); rw [if_neg h0]; simp [List.append_assoc]; done) | (have h0 : j = 0 := (by omega); rw [if_pos h0]; simp [List.append_assoc]; done)), ⟨rfl, rfl, rfl, rfl, rfl, trivial⟩, hF⟩
              omega
          ·
            refine c_iff rfl ?_
            refine c_skip ?_
            refine e_seq ?_
            refine c_seq ?_
            refine c_seq ?_
            refine c_region ?_
            refine o_val (v := .pointer (some ⟨b1, 0, none⟩)) (x_fieldAddrO fa_25_0 rfl) ?_
            refine o_val (v := .int .i64 (k)) (x_load Tryz.isAgg3 rfl (hF.cell 0 rfl rfl)) ?_
            refine o_val (v := .bool (decide ((k : Int) = (6 : Int)))) (x_eql rfl rfl) ?_
            refine o_nil ?_
            refine e_seq ?_
            refine c_splitd (d := 51) (p := (k : Int) = (6 : Int)) rfl (fun hc3 => ?_) (fun hc3 => ?_)
            ·
              obtain ⟨-, hjk, hsx⟩ : k = 6 ∧ ∃ h : j < ks.length, jS k ks xs (j + 1) = jS k ks xs j ++ ((if j = 0 then [] else [44]) ++ (qS ks[j] ++ ([58] ++ valS false 0 xs[j] 0))) := hsucc.resolve_right (fun h => h.1 (by omega))
              have hql : (qS ks[j]).length ≤ 6291458 := Nat.le_trans (qS_length _) (by have := maxKs_mem (List.getElem_mem hjk); rw [maxL] at hmx; omega)
              obtain ⟨cl1, cl2⟩ := comp_leaf ((right_keys ax (by omega)).2 ks[j] (List.getElem_mem hjk))
              refine c_ift rfl ?_
              refine c_seq ?_
              refine c_region ?_
              refine o_val (v := .pointer (some ⟨b1, 2, none⟩)) (x_fieldAddrO fa_25_2 rfl) ?_
              refine o_val (v := .slice (A) (ks.length) (c)) (x_load Tryz.isAgg22 rfl (hF.cell 0 rfl rfl)) ?_
              refine o_val (v := .int .i64 ((j : Int))) (x_move rfl) ?_
              obtain ⟨ad12, hA12, hk12, hx12⟩ := hK.str_elem (i := j) (by omega)
              refine o_val (v := .pointer (some (ad12.add (j * 1)))) (x_indexAddrA (i := (j : Int)) sl_22 rfl hA12 rfl (by omega) (by omega)) ?_
              refine o_val (v := .string (bs (ks[j]))) (x_load Tryz.isAgg9 rfl (hF.cell0 hk12)) ?_
              refine o_call (of_c ks[j] _) (x_call1 en_25 rfl rfl) ?_
              rintro _ w ⟨rfl, hE⟩
              replace hF := hF.ext hE
              clear hE
              refine o_call (comp_c (.node 4 ks[j] [] []) _ _ [.int .i64 4, .string (bs ks[j]), .slice none 0 0, .slice none 0 0] (leaf_rep (S := fun _ => True) (Nat.le_trans (maxKs_mem (List.getElem_mem (by omega))) (by rw [maxL] at hmx; omega))) (hG.ext hF.same) (by simp [sizeT, sizeTs]) (by have := maxKs_mem (List.getElem_mem (show j < ks.length by omega)); simp only [maxL, maxKs, maxLs]; rw [maxL] at hmx; omega)) (x_call1 en_16 rfl rfl) ?_
              rintro _ w ⟨rfl, hE⟩
              rw [cl1, cl2]
              replace hF := hF.ext hE
              clear hE
              refine o_val (v := .tuple #[.string (bs (qS ks[j])), .int .i64 (0)]) (x_move rfl) ?_
              refine o_val (v := .string (bs (qS ks[j]))) (x_extract rfl rfl) ?_
              refine o_val (v := .int .i64 (0)) (x_extract rfl rfl) ?_
              refine o_val (v := .string (bs (qS ks[j]))) (x_assign rfl) ?_
              refine o_val (v := .int .i64 (0)) (x_assign rfl) ?_
              refine o_nil ?_
              refine e_seq ?_
              refine c_seq ?_
              refine c_seq ?_
              refine c_region ?_
              refine o_val (v := .int .i64 (0)) (x_move rfl) ?_
              refine o_val (v := .bool false) (run_false (x_neq rfl rfl) (by omega)) ?_
              refine o_nil ?_
              refine e_seq ?_
              refine c_iff rfl ?_
              refine c_skip ?_
              refine e_seq ?_
              refine c_region ?_
              refine o_val (v := .string (bs (s))) (x_move rfl) ?_
              refine o_val (v := .string (bs (qS ks[j]))) (x_move rfl) ?_
              refine o_val (v := .string (bs ((s) ++ (qS ks[j])))) (x_cat rfl rfl (by (try simp only [List.length_append, List.length_cons, List.length_nil]); omega)) ?_
              refine o_val (v := .string (bs (((s) ++ (qS ks[j])) ++ ([58])))) (x_cat rfl rfl (by (try simp only [List.length_append, List.length_cons, List.length_nil]); omega)) ?_
              refine o_val (v := .string (bs (((s) ++ (qS ks[j])) ++ ([58])))) (x_assign rfl) ?_
              refine o_nil ?_
              refine e_seq ?_
              refine c_seq ?_
              refine c_region ?_
              refine o_val (v := .pointer (some ⟨b1, 3, none⟩)) (x_fieldAddrO fa_25_3 rfl) ?_
              refine o_val (v := .slice (B) (xs.length) (e)) (x_load Tryz.isAgg23 rfl (hF.cell 0 rfl rfl)) ?_
              refine o_val (v := .int .i64 ((j : Int))) (x_move rfl) ?_
              obtain ⟨ad13, cs13, hA13, hl13, hk13, hx13⟩ := hX.tree_elem (i := j) (by omega)
              have ho13 := hx13.one_
              refine o_val (v := .pointer (some (ad13.add (j * 4)))) (x_indexAddrA (i := (j : Int)) sl_23 rfl hA13 rfl (by omega) (by omega)) ?_
              refine o_val (v := .agg (List.toArray cs13)) (x_loadS (l := cs13) Tryz.isAgg25 Tryz.sizeOf25 rfl hl13 (hF.cells0 hk13)) ?_
              refine o_call (comp_c xs[j] _ _ cs13 (hF.rep hx13) (hG.ext hF.same) (by have := sizeTs_mem (List.getElem_mem hjx); rw [sizeT] at hsz; omega) (by have := maxLs_mem (List.getElem_mem hjx); rw [maxL] at hmx; omega)) (x_call1 en_16 rfl rfl) ?_
              rintro _ w ⟨rfl, hE⟩
              rw [cs1, ce1]
              replace hF := hF.ext hE
              clear hE
              refine o_val (v := .tuple #[.string (bs (valS false 0 xs[j] 0)), .int .i64 (0)]) (x_move rfl) ?_
              refine o_val (v := .string (bs (valS false 0 xs[j] 0))) (x_extract rfl rfl) ?_
              refine o_val (v := .int .i64 (0)) (x_extract rfl rfl) ?_
              refine o_val (v := .string (bs (valS false 0 xs[j] 0))) (x_assign rfl) ?_
              refine o_val (v := .int .i64 (0)) (x_assign rfl) ?_
              refine o_nil ?_
              refine e_seq ?_
              refine c_seq ?_
              refine c_seq ?_
              refine c_region ?_
              refine o_val (v := .int .i64 (0)) (x_move rfl) ?_
              refine o_val (v := .bool false) (run_false (x_neq rfl rfl) (by omega)) ?_
              refine o_nil ?_
              refine e_seq ?_
              refine c_iff rfl ?_
              refine c_skip ?_
              refine e_seq ?_
              refine c_region ?_
              refine o_val (v := .string (bs (((s) ++ (qS ks[j])) ++ ([58])))) (x_move rfl) ?_
              refine o_val (v := .string (bs (valS false 0 xs[j] 0))) (x_move rfl) ?_
              refine o_val (v := .string (bs ((((s) ++ (qS ks[j])) ++ ([58])) ++ (valS false 0 xs[j] 0)))) (x_cat rfl rfl (by (try simp only [List.length_append, List.length_cons, List.length_nil]); omega)) ?_
              refine o_val (v := .string (bs ((((s) ++ (qS ks[j])) ++ ([58])) ++ (valS false 0 xs[j] 0)))) (x_assign rfl) ?_
              refine o_nil ?_
              refine e_block ?_
              refine e_seq ?_
              refine c_region ?_
              refine o_val (v := .int .i64 ((j : Int))) (x_move rfl) ?_
              refine o_val (v := .int .i64 (((j + 1 : Nat) : Int))) (x_add rfl rfl (wrap_to (by omega) (by omega) (by omega))) ?_
              refine o_val (v := .int .i64 (((j + 1 : Nat) : Int))) (x_assign rfl) ?_
              refine o_nil ?_
              refine e_inv ⟨_, ?_, j + 1, (((s) ++ (qS ks[j])) ++ ([58])) ++ (valS false 0 xs[j] 0), rfl, (hjx), (by rw [hsx, ← hs]; first | (have h0 : ¬ j = 0 := (by omega); rw [if_neg h0]; simp [List.append_assoc]; done) | (have h0 : j = 0 := (by omega); rw [if_pos h0]; simp [List.append_assoc]; done)), ⟨rfl, rfl, rfl, rfl, rfl, trivial⟩, hF⟩
              omega
            ·
              have hsx : jS k ks xs (j + 1) = jS k ks xs j ++ ((if j = 0 then [] else [44]) ++ valS false 0 xs[j] 0) := (hsucc.resolve_left (fun h => absurd h.1 (by omega))).2
              refine c_iff rfl ?_
              refine c_skip ?_
              refine e_seq ?_
              refine c_seq ?_
              refine c_region ?_
              refine o_val (v := .pointer (some ⟨b1, 3, none⟩)) (x_fieldAddrO fa_25_3 rfl) ?_
              refine o_val (v := .slice (B) (xs.length) (e)) (x_load Tryz.isAgg23 rfl (hF.cell 0 rfl rfl)) ?_
              refine o_val (v := .int .i64 ((j : Int))) (x_move rfl) ?_
              obtain ⟨ad14, cs14, hA14, hl14, hk14, hx14⟩ := hX.tree_elem (i := j) (by omega)
              have ho14 := hx14.one_
              refine o_val (v := .pointer (some (ad14.add (j * 4)))) (x_indexAddrA (i := (j : Int)) sl_23 rfl hA14 rfl (by omega) (by omega)) ?_
              refine o_val (v := .agg (List.toArray cs14)) (x_loadS (l := cs14) Tryz.isAgg25 Tryz.sizeOf25 rfl hl14 (hF.cells0 hk14)) ?_
              refine o_call (comp_c xs[j] _ _ cs14 (hF.rep hx14) (hG.ext hF.same) (by have := sizeTs_mem (List.getElem_mem hjx); rw [sizeT] at hsz; omega) (by have := maxLs_mem (List.getElem_mem hjx); rw [maxL] at hmx; omega)) (x_call1 en_16 rfl rfl) ?_
              rintro _ w ⟨rfl, hE⟩
              rw [cs1, ce1]
              replace hF := hF.ext hE
              clear hE
              refine o_val (v := .tuple #[.string (bs (valS false 0 xs[j] 0)), .int .i64 (0)]) (x_move rfl) ?_
              refine o_val (v := .string (bs (valS false 0 xs[j] 0))) (x_extract rfl rfl) ?_
              refine o_val (v := .int .i64 (0)) (x_extract rfl rfl) ?_
              refine o_val (v := .string (bs (valS false 0 xs[j] 0))) (x_assign rfl) ?_
              refine o_val (v := .int .i64 (0)) (x_assign rfl) ?_
              refine o_nil ?_
              refine e_seq ?_
              refine c_seq ?_
              refine c_seq ?_
              refine c_region ?_
              refine o_val (v := .int .i64 (0)) (x_move rfl) ?_
              refine o_val (v := .bool false) (run_false (x_neq rfl rfl) (by omega)) ?_
              refine o_nil ?_
              refine e_seq ?_
              refine c_iff rfl ?_
              refine c_skip ?_
              refine e_seq ?_
              refine c_region ?_
              refine o_val (v := .string (bs (s))) (x_move rfl) ?_
              refine o_val (v := .string (bs (valS false 0 xs[j] 0))) (x_move rfl) ?_
              refine o_val (v := .string (bs ((s) ++ (valS false 0 xs[j] 0)))) (x_cat rfl rfl (by (try simp only [List.length_append, List.length_cons, List.length_nil]); omega)) ?_
              refine o_val (v := .string (bs ((s) ++ (valS false 0 xs[j] 0)))) (x_assign rfl) ?_
              refine o_nil ?_
              refine e_block ?_
              refine e_seq ?_
              refine c_region ?_
              refine o_val (v := .int .i64 ((j : Int))) (x_move rfl) ?_
              refine o_val (v := .int .i64 (((j + 1 : Nat) : Int))) (x_add rfl rfl (wrap_to (by omega) (by omega) (by omega))) ?_
              refine o_val (v := .int .i64 (((j + 1 : Nat) : Int))) (x_assign rfl) ?_
              refine o_nil ?_
              refine e_inv ⟨_, ?_, j + 1, (s) ++ (valS false 0 xs[j] 0), rfl, (hjx), (by rw [hsx, ← hs]; first | (have h0 : ¬ j = 0 := (by omega); rw [if_neg h0]; simp [List.append_assoc]; done) | (have h0 : j = 0 := (by omega); rw [if_pos h0]; simp [List.append_assoc]; done)), ⟨rfl, rfl, rfl, rfl, rfl, trivial⟩, hF⟩
              omega
        ·
          obtain rfl : j = xs.length := by omega
          have hsl := hlim xs.length
          rw [← hs] at hsl
          refine c_iff rfl ?_
          refine c_exit (e_exit rfl ?_)
          refine e_seq ?_
          refine c_seq ?_
          refine c_seq ?_
          refine c_region ?_
          refine o_val (v := .pointer (some ⟨b1, 0, none⟩)) (x_fieldAddrO fa_25_0 rfl) ?_
          refine o_val (v := .int .i64 (k)) (x_load Tryz.isAgg3 rfl (hF.cell 0 rfl rfl)) ?_
          refine o_val (v := .bool (decide ((k : Int) = (5 : Int)))) (x_eql rfl rfl) ?_
          refine o_nil ?_
          refine e_seq ?_
          refine c_splitd (d := 84) (p := (k : Int) = (5 : Int)) rfl (fun hc6 => ?_) (fun hc6 => ?_)
          ·
            refine c_ift rfl ?_
            refine c_seq ?_
            refine c_region ?_
            refine o_val (v := .bool true) (x_move rfl) ?_
            refine o_val (v := .bool true) (x_move rfl) ?_
            refine o_val (v := .string (bs (compS (.node k t ks xs)))) (x_move rfl) ?_
            refine o_val (v := .string (bs (s))) (x_move rfl) ?_
            refine o_val (v := .string (bs (([91]) ++ (s)))) (x_cat rfl rfl (by (try simp only [List.length_append, List.length_cons, List.length_nil]); omega)) ?_
            refine o_val (v := .string (bs ((([91]) ++ (s)) ++ ([93])))) (x_cat rfl rfl (by (try simp only [List.length_append, List.length_cons, List.length_nil]); omega)) ?_
            refine o_val (v := .bool true) (run_true (x_eqls rfl rfl) (by rw [hs]; exact comp_five ax (by omega))) ?_
            refine o_val (v := .bool true) (x_pickt rfl rfl) ?_
            refine o_val (v := .bool true) (x_assign rfl) ?_
            refine o_nil ?_
            refine e_seq ?_
            refine c_ret (e_ret (post_ret (res_1 (v := .bool true) rfl rfl) ?_))
            exact ⟨rfl, hF.same⟩
          ·
            refine c_iff rfl ?_
            refine c_skip ?_
            refine e_seq ?_
            refine c_seq ?_
            refine c_region ?_
            refine o_val (v := .bool true) (x_move rfl) ?_
            refine o_val (v := .bool true) (x_move rfl) ?_
            refine o_val (v := .string (bs (compS (.node k t ks xs)))) (x_move rfl) ?_
            refine o_val (v := .string (bs (s))) (x_move rfl) ?_
            refine o_val (v := .string (bs (([123]) ++ (s)))) (x_cat rfl rfl (by (try simp only [List.length_append, List.length_cons, List.length_nil]); omega)) ?_
            refine o_val (v := .string (bs ((([123]) ++ (s)) ++ ([125])))) (x_cat rfl rfl (by (try simp only [List.length_append, List.length_cons, List.length_nil]); omega)) ?_
            refine o_val (v := .bool true) (run_true (x_eqls rfl rfl) (by rw [hs]; exact comp_six ax (by omega))) ?_
            refine o_val (v := .bool true) (x_pickt rfl rfl) ?_
            refine o_val (v := .bool true) (x_assign rfl) ?_
            refine o_nil ?_
            refine e_seq ?_
            refine c_ret (e_ret (post_ret (res_1 (v := .bool true) rfl rfl) ?_))
            exact ⟨rfl, hF.same⟩
theorem printParts_w (w0 : World) (hG : Gl w0) (x : Tree) (cx : List Value) (rx : Rep (fun _ => True) w0 (treeD x) cx) (hb : bulkT x ≤ 1048576) : Calls Tryz.prog 5 #[.agg cx.toArray] w0 (Ret fun v w' => v = .bool true ∧ Same [] w0 w') := by
  have h1 := bulk_size x
  have h2 := bulk_max x
  obtain ⟨k, t, ks, xs⟩ := x
  have rx0 := rx
  obtain ⟨A, c, B, e, rfl, -, -, -, hX⟩ := rx0.tree_inv
  have h3 := sizeTs_len xs
  have h4 : sizeT (.node k t ks xs) = 1 + sizeTs xs := by rw [sizeT]
  exact printParts_w0 w0 hG k t ks xs A c B e rx (by omega) (by omega) (by omega)
end Go.Scarf
