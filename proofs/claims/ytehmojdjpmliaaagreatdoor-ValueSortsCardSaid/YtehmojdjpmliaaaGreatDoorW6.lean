/- A part of the proof. -/
import Derived.Test.YtehmojdjpmliaaaGreatDoorW5
set_option linter.all false
namespace Go.Scarf
open Go.RowKit Go.Proofs
mutual
def okT : Tree → Prop | .node _ t ks xs => t.length ≤ 140737488355328 ∧ (∀ k ∈ ks, k.length ≤ 140737488355328) ∧ okTs xs
def okTs : List Tree → Prop | [] => True | x :: xs => okT x ∧ okTs xs
end
theorem okTs_mem : ∀ {xs : List Tree}, okTs xs → ∀ x ∈ xs, okT x
  | [], _, _, h => absurd h (by simp)
  | y :: ys, h, x, hx => by
    rw [okTs] at h
    rcases List.mem_cons.1 hx with rfl | hx
    · exact h.1
    · exact okTs_mem h.2 x hx
def nodeB : Tree → Bool
  | .node k t ks xs =>
    if k = 5 then decide (ks = []) && decide (t = []) else
    if k = 6 then keyedB ks xs.length && decide (t = []) else
    if ks ≠ [] ∨ xs ≠ [] then false else
    if k = 1 then decide (t = []) else
    if k = 2 then decide (t = [116, 114, 117, 101]) || decide (t = [102, 97, 108, 115, 101]) else
    if k = 3 then decimalB t else if k = 4 then Lib.validD t else if k = 7 then holeB t else false
def PredC (g : Nat) (q : Tree → Bool) : Prop := ∀ (x : Tree) (S : Nat → Prop) (w0 : World) (cs : List Value), Rep S w0 (treeD x) cs → okT x → Gl w0 → Calls Tryz.prog g #[.agg cs.toArray] w0 (Ret fun v w' => v = .bool (q x) ∧ Same [] w0 w')
theorem len_pos {α : Type} (l : List α) : decide ((0 : Int) < (l.length : Int)) = decide (l ≠ []) := by
  cases l <;> simp
set_option maxHeartbeats 4000000 in
set_option maxRecDepth 10000 in
theorem node_c  : PredC 62 nodeB := by
  rintro ⟨k, t, ks, xs⟩ S w0 cs hR hk hG
  obtain ⟨A, c, B, e, rfl, -, -, hK, hX⟩ := hR.tree_inv
  rw [okT] at hk
  refine calls_start Tryz.func62 rfl Tryz.ntmps62 (Nat.le_of_ble_eq_true rfl) (args_1 _) ?_
  have hF := FR.start w0 []
  refine c_seq ?_
  refine c_region ?_
  refine o_box (v := .agg #[.int .i64 (k), .string (bs (t)), .slice (A) (ks.length) (c), .slice (B) (xs.length) (e)]) (cs := #[.int .i64 (k), .string (bs (t)), .slice (A) (ks.length) (c), .slice (B) (xs.length) (e)]) hF rfl rfl ?_
  clear hF; intro b1 w hb1 hF hE
  clear hE
  refine o_val (v := .bool false) (x_assign rfl) ?_
  refine o_nil ?_
  refine e_seq ?_
  refine c_seq ?_
  refine c_drawF [] (.free 0 (.free 1 (.free 2 (.free 3 (.free 4 (.free 5 (.free 6 (.free 7 (.free 8 (.free 9 .nil)))))))))) (by kernel_rfl) hF (by kernel_rfl) (by kernel_rfl) ?_
  clear hF; intro w hF hE
  clear hE
  refine ⟨fun wq => FR w0 [] [(b1, .cells #[.int .i64 (k), .string (bs (t)), .slice (A) (ks.length) (c), .slice (B) (xs.length) (e)] 25)] wq, hF, ?_⟩
  refine f_free rfl (v := .pointer (some ⟨b1, 2, none⟩)) (fun w hC => x_fieldAddrO fa_25_2 rfl) ?_
  refine f_free rfl (v := .slice (A) (ks.length) (c)) (fun w hC => x_load Tryz.isAgg22 rfl (hC.cell 0 rfl rfl)) ?_
  refine f_free rfl (v := .int .i64 ((ks.length : Nat))) (fun w hC => x_len_slice Tryz.underlying22 rfl) ?_
  refine f_free rfl (v := .bool (decide ((0 : Int) < ((ks.length : Nat) : Int)))) (fun w hC => x_gtr rfl rfl) ?_
  refine f_free rfl (v := .pointer (some ⟨b1, 3, none⟩)) (fun w hC => x_fieldAddrO fa_25_3 rfl) ?_
  refine f_free rfl (v := .slice (B) (xs.length) (e)) (fun w hC => x_load Tryz.isAgg23 rfl (hC.cell 0 rfl rfl)) ?_
  refine f_free rfl (v := .int .i64 ((xs.length : Nat))) (fun w hC => x_len_slice Tryz.underlying23 rfl) ?_
  refine f_free rfl (v := .bool (decide ((0 : Int) < ((xs.length : Nat) : Int)))) (fun w hC => x_gtr rfl rfl) ?_
  refine f_free rfl (v := .bool (decide ((0 : Int) < ((ks.length : Nat) : Int)))) (fun w hC => x_assign rfl) ?_
  refine f_free rfl (v := .bool (decide ((0 : Int) < ((xs.length : Nat) : Int)))) (fun w hC => x_assign rfl) ?_
  refine d_nil ?_
  refine e_seq ?_
  refine c_seq ?_
  refine c_seq ?_
  refine c_region ?_
  refine o_val (v := .pointer (some ⟨b1, 0, none⟩)) (x_fieldAddrO fa_25_0 rfl) ?_
  refine o_val (v := .int .i64 (k)) (x_load Tryz.isAgg3 rfl (hF.cell 0 rfl rfl)) ?_
  refine o_nil ?_
  refine e_seq ?_
  refine c_block ?_
  refine c_seq ?_
  refine c_region ?_
  refine o_val (v := .bool (decide ((k : Int) = (5 : Int)))) (x_eql rfl rfl) ?_
  refine o_val (v := .bool (decide ((k : Int) = (5 : Int)))) (x_assign rfl) ?_
  refine o_nil ?_
  refine e_seq ?_
  refine c_splitd (d := 17) (p := (k : Int) = (5 : Int)) rfl (fun hc0 => ?_) (fun hc0 => ?_)
  ·
    refine c_ift rfl ?_
    refine c_seq ?_
    refine c_region ?_
    refine o_val (v := .bool (decide ((0 : Int) < ((ks.length : Nat) : Int)))) (x_move rfl) ?_
    refine o_val (v := .bool (decide (¬ ((0 : Int) < ((ks.length : Nat) : Int))))) (x_notd rfl) ?_
    refine o_val (v := .bool (decide (¬ ((0 : Int) < ((ks.length : Nat) : Int))))) (x_move rfl) ?_
    refine o_splitd (d := 21) (p := ¬ ((0 : Int) < ((ks.length : Nat) : Int))) rfl (fun hg0 => ?_) (fun hg0 => ?_)
    ·
      refine o_val (v := .pointer (some ⟨b1, 1, none⟩)) (x_fieldAddrO fa_25_1 rfl) ?_
      refine o_val (v := .string (bs (t))) (x_load Tryz.isAgg9 rfl (hF.cell 0 rfl rfl)) ?_
      refine o_val (v := .bool (decide ((t : Str) = []))) (x_eqls rfl rfl) ?_
      refine o_val (v := .bool (decide ((t : Str) = []))) (x_pickt rfl rfl) ?_
      refine o_val (v := .bool (decide ((t : Str) = []))) (x_assign rfl) ?_
      refine o_nil ?_
      refine e_seq ?_
      refine c_ret (e_ret (post_ret (res_1 (v := .bool (decide ((t : Str) = []))) rfl rfl) ?_))
      refine ⟨?_, hF.same⟩
      clear hF hR hK hX hb1
      simp_all [nodeB, List.length_pos_iff]
    ·
      refine o_off ?_
      refine o_off ?_
      refine o_off ?_
      refine o_val (v := .bool false) (x_pickf rfl rfl) ?_
      refine o_val (v := .bool false) (x_assign rfl) ?_
      refine o_nil ?_
      refine e_seq ?_
      refine c_ret (e_ret (post_ret (res_1 (v := .bool false) rfl rfl) ?_))
      refine ⟨?_, hF.same⟩
      clear hF hR hK hX hb1
      simp_all [nodeB, List.length_pos_iff]
  ·
    refine c_iff rfl ?_
    refine c_seq ?_
    refine c_region ?_
    refine o_val (v := .bool (decide ((k : Int) = (6 : Int)))) (x_eql rfl rfl) ?_
    refine o_val (v := .bool (decide ((k : Int) = (6 : Int)))) (x_assign rfl) ?_
    refine o_nil ?_
    refine e_seq ?_
    refine c_splitd (d := 26) (p := (k : Int) = (6 : Int)) rfl (fun hc1 => ?_) (fun hc1 => ?_)
    ·
      refine c_ift rfl ?_
      refine c_seq ?_
      refine c_region ?_
      refine o_val (v := .pointer (some ⟨b1, 2, none⟩)) (x_fieldAddrO fa_25_2 rfl) ?_
      refine o_val (v := .slice (A) (ks.length) (c)) (x_load Tryz.isAgg22 rfl (hF.cell 0 rfl rfl)) ?_
      refine o_val (v := .pointer (some ⟨b1, 3, none⟩)) (x_fieldAddrO fa_25_3 rfl) ?_
      refine o_val (v := .slice (B) (xs.length) (e)) (x_load Tryz.isAgg23 rfl (hF.cell 0 rfl rfl)) ?_
      refine o_val (v := .int .i64 ((xs.length : Nat))) (x_len_slice Tryz.underlying23 rfl) ?_
      refine o_call (keyed_c ks (xs.length : Nat) S A c (by simpa using hk.2.1) _ (hG.ext hF.same) (hF.rep hK)) (x_call2 en_86 rfl rfl rfl) ?_
      rintro _ w ⟨rfl, hE⟩
      replace hF := hF.ext hE
      clear hE
      refine o_val (v := .bool (keyedB ks (xs.length : Nat))) (x_move rfl) ?_
      refine o_split (d := 34) (b := keyedB ks (xs.length : Nat)) rfl (fun hg1 => ?_) (fun hg1 => ?_)
      ·
        refine o_val (v := .pointer (some ⟨b1, 1, none⟩)) (x_fieldAddrO fa_25_1 rfl) ?_
        refine o_val (v := .string (bs (t))) (x_load Tryz.isAgg9 rfl (hF.cell 0 rfl rfl)) ?_
        refine o_val (v := .bool (decide ((t : Str) = []))) (x_eqls rfl rfl) ?_
        refine o_val (v := .bool (decide ((t : Str) = []))) (x_pickt rfl rfl) ?_
        refine o_val (v := .bool (decide ((t : Str) = []))) (x_assign rfl) ?_
        refine o_nil ?_
        refine e_seq ?_
        refine c_ret (e_ret (post_ret (res_1 (v := .bool (decide ((t : Str) = []))) rfl rfl) ?_))
        refine ⟨?_, hF.same⟩
        clear hF hR hK hX hb1
        simp_all [nodeB, List.length_pos_iff]
      ·
        refine o_off ?_
        refine o_off ?_
        refine o_off ?_
        refine o_val (v := .bool false) (x_pickf rfl rfl) ?_
        refine o_val (v := .bool false) (x_assign rfl) ?_
        refine o_nil ?_
        refine e_seq ?_
        refine c_ret (e_ret (post_ret (res_1 (v := .bool false) rfl rfl) ?_))
        refine ⟨?_, hF.same⟩
        clear hF hR hK hX hb1
        simp_all [nodeB, List.length_pos_iff]
    ·
      refine c_iff rfl ?_
      refine c_skip ?_
      refine e_block ?_
      refine e_seq ?_
      refine c_seq ?_
      refine c_seq ?_
      refine c_region ?_
      refine o_val (v := .bool (decide ((0 : Int) < ((ks.length : Nat) : Int)))) (x_move rfl) ?_
      refine o_val (v := .bool (decide ((0 : Int) < ((ks.length : Nat) : Int)))) (x_move rfl) ?_
      refine o_splitd (d := 40) (p := (0 : Int) < ((ks.length : Nat) : Int)) rfl (fun hg2 => ?_) (fun hg2 => ?_)
      ·
        refine o_off ?_
        refine o_val (v := .bool true) (x_pickt rfl rfl) ?_
        refine o_nil ?_
        refine e_seq ?_
        refine c_ift rfl ?_
        refine c_seq ?_
        refine c_region ?_
        refine o_val (v := .bool false) (x_assign rfl) ?_
        refine o_nil ?_
        refine e_seq ?_
        refine c_ret (e_ret (post_ret (res_1 (v := .bool false) rfl rfl) ?_))
        refine ⟨?_, hF.same⟩
        clear hF hR hK hX hb1
        simp_all [nodeB, List.length_pos_iff]
      ·
        refine o_val (v := .bool (decide ((0 : Int) < ((xs.length : Nat) : Int)))) (x_move rfl) ?_
        refine o_val (v := .bool (decide ((0 : Int) < ((xs.length : Nat) : Int)))) (x_pickf rfl rfl) ?_
        refine o_nil ?_
        refine e_seq ?_
        refine c_splitd (d := 42) (p := (0 : Int) < ((xs.length : Nat) : Int)) rfl (fun hc2 => ?_) (fun hc2 => ?_)
        ·
          refine c_ift rfl ?_
          refine c_seq ?_
          refine c_region ?_
          refine o_val (v := .bool false) (x_assign rfl) ?_
          refine o_nil ?_
          refine e_seq ?_
          refine c_ret (e_ret (post_ret (res_1 (v := .bool false) rfl rfl) ?_))
          refine ⟨?_, hF.same⟩
          clear hF hR hK hX hb1
          simp_all [nodeB, List.length_pos_iff]
        ·
          refine c_iff rfl ?_
          refine c_skip ?_
          refine e_seq ?_
          refine c_seq ?_
          refine c_seq ?_
          refine c_region ?_
          refine o_val (v := .pointer (some ⟨b1, 0, none⟩)) (x_fieldAddrO fa_25_0 rfl) ?_
          refine o_val (v := .int .i64 (k)) (x_load Tryz.isAgg3 rfl (hF.cell 0 rfl rfl)) ?_
          refine o_nil ?_
          refine e_seq ?_
          refine c_block ?_
          refine c_seq ?_
          refine c_region ?_
          refine o_val (v := .bool (decide ((k : Int) = (1 : Int)))) (x_eql rfl rfl) ?_
          refine o_val (v := .bool (decide ((k : Int) = (1 : Int)))) (x_assign rfl) ?_
          refine o_nil ?_
          refine e_seq ?_
          refine c_splitd (d := 45) (p := (k : Int) = (1 : Int)) rfl (fun hc3 => ?_) (fun hc3 => ?_)
          ·
            refine c_ift rfl ?_
            refine c_seq ?_
            refine c_region ?_
            refine o_val (v := .pointer (some ⟨b1, 1, none⟩)) (x_fieldAddrO fa_25_1 rfl) ?_
            refine o_val (v := .string (bs (t))) (x_load Tryz.isAgg9 rfl (hF.cell 0 rfl rfl)) ?_
            refine o_val (v := .bool (decide ((t : Str) = []))) (x_eqls rfl rfl) ?_
            refine o_val (v := .bool (decide ((t : Str) = []))) (x_assign rfl) ?_
            refine o_nil ?_
            refine e_seq ?_
            refine c_ret (e_ret (post_ret (res_1 (v := .bool (decide ((t : Str) = []))) rfl rfl) ?_))
            refine ⟨?_, hF.same⟩
            clear hF hR hK hX hb1
            simp_all [nodeB, List.length_pos_iff]
          ·
            refine c_iff rfl ?_
            refine c_seq ?_
            refine c_region ?_
            refine o_val (v := .bool (decide ((k : Int) = (2 : Int)))) (x_eql rfl rfl) ?_
            refine o_val (v := .bool (decide ((k : Int) = (2 : Int)))) (x_assign rfl) ?_
            refine o_nil ?_
            refine e_seq ?_
            refine c_splitd (d := 50) (p := (k : Int) = (2 : Int)) rfl (fun hc4 => ?_) (fun hc4 => ?_)
            ·
              refine c_ift rfl ?_
              refine c_seq ?_
              refine c_region ?_
              refine o_val (v := .pointer (some ⟨b1, 1, none⟩)) (x_fieldAddrO fa_25_1 rfl) ?_
              refine o_val (v := .string (bs (t))) (x_load Tryz.isAgg9 rfl (hF.cell 0 rfl rfl)) ?_
              refine o_val (v := .bool (decide ((t : Str) = [116, 114, 117, 101]))) (x_eqls rfl rfl) ?_
              refine o_val (v := .bool (decide ((t : Str) = [116, 114, 117, 101]))) (x_move rfl) ?_
              refine o_splitd (d := 55) (p := (t : Str) = [116, 114, 117, 101]) rfl (fun hg3 => ?_) (fun hg3 => ?_)
              ·
                refine o_off ?_
                refine o_off ?_
                refine o_off ?_
                refine o_val (v := .bool true) (x_pickt rfl rfl) ?_
                refine o_val (v := .bool true) (x_assign rfl) ?_
                refine o_nil ?_
                refine e_seq ?_
                refine c_ret (e_ret (post_ret (res_1 (v := .bool true) rfl rfl) ?_))
                refine ⟨?_, hF.same⟩
                clear hF hR hK hX hb1
                simp_all [nodeB, List.length_pos_iff]
              ·
                refine o_val (v := .pointer (some ⟨b1, 1, none⟩)) (x_fieldAddrO fa_25_1 rfl) ?_
                refine o_val (v := .string (bs (t))) (x_load Tryz.isAgg9 rfl (hF.cell 0 rfl rfl)) ?_
                refine o_val (v := .bool (decide ((t : Str) = [102, 97, 108, 115, 101]))) (x_eqls rfl rfl) ?_
                refine o_val (v := .bool (decide ((t : Str) = [102, 97, 108, 115, 101]))) (x_pickf rfl rfl) ?_
                refine o_val (v := .bool (decide ((t : Str) = [102, 97, 108, 115, 101]))) (x_assign rfl) ?_
                refine o_nil ?_
                refine e_seq ?_
                refine c_ret (e_ret (post_ret (res_1 (v := .bool (decide ((t : Str) = [102, 97, 108, 115, 101]))) rfl rfl) ?_))
                refine ⟨?_, hF.same⟩
                clear hF hR hK hX hb1
                simp_all [nodeB, List.length_pos_iff]
            ·
              refine c_iff rfl ?_
              refine c_seq ?_
              refine c_region ?_
              refine o_val (v := .bool (decide ((k : Int) = (3 : Int)))) (x_eql rfl rfl) ?_
              refine o_val (v := .bool (decide ((k : Int) = (3 : Int)))) (x_assign rfl) ?_
              refine o_nil ?_
              refine e_seq ?_
              refine c_splitd (d := 60) (p := (k : Int) = (3 : Int)) rfl (fun hc5 => ?_) (fun hc5 => ?_)
              ·
                refine c_ift rfl ?_
                refine c_seq ?_
                refine c_region ?_
                refine o_val (v := .pointer (some ⟨b1, 1, none⟩)) (x_fieldAddrO fa_25_1 rfl) ?_
                refine o_val (v := .string (bs (t))) (x_load Tryz.isAgg9 rfl (hF.cell 0 rfl rfl)) ?_
                refine o_call (decimal_c t hk.1 _ (hG.ext hF.same)) (x_call1 en_87 rfl rfl) ?_
                rintro _ w ⟨rfl, hE⟩
                replace hF := hF.ext hE
                clear hE
                refine o_val (v := .tuple #[.agg #[.bool ((parseN t).1.neg), .string (bs ((parseN t).1.digits)), .int .i64 ((parseN t).1.exp)], .bool (decimalB t)]) (x_move rfl) ?_
                refine o_val (v := .agg #[.bool ((parseN t).1.neg), .string (bs ((parseN t).1.digits)), .int .i64 ((parseN t).1.exp)]) (x_extract rfl rfl) ?_
                refine o_val (v := .bool (decimalB t)) (x_extract rfl rfl) ?_
                refine o_lay (l := [.bool ((parseN t).1.neg), .string (bs ((parseN t).1.digits)), .int .i64 ((parseN t).1.exp)]) hF Tryz.zeroValue65 Tryz.sizeOf65 rfl (v := .agg #[.bool ((parseN t).1.neg), .string (bs ((parseN t).1.digits)), .int .i64 ((parseN t).1.exp)]) rfl rfl (by simp [one]) rfl ?_
                clear hF; intro b2 w hb2 hF hE
                clear hE
                refine o_val (v := .bool (decimalB t)) (x_assign rfl) ?_
                refine o_nil ?_
                refine e_seq ?_
                refine c_seq ?_
                refine c_region ?_
                refine o_val (v := .bool (decimalB t)) (x_move rfl) ?_
                refine o_val (v := .bool (decimalB t)) (x_assign rfl) ?_
                refine o_nil ?_
                refine e_seq ?_
                refine c_ret (e_ret (post_ret (res_1 (v := .bool (decimalB t)) rfl rfl) ?_))
                refine ⟨?_, hF.same⟩
                clear hF hR hK hX hb1
                simp_all [nodeB, List.length_pos_iff]
              ·
                refine c_iff rfl ?_
                refine c_seq ?_
                refine c_region ?_
                refine o_val (v := .bool (decide ((k : Int) = (4 : Int)))) (x_eql rfl rfl) ?_
                refine o_val (v := .bool (decide ((k : Int) = (4 : Int)))) (x_assign rfl) ?_
                refine o_nil ?_
                refine e_seq ?_
                refine c_splitd (d := 69) (p := (k : Int) = (4 : Int)) rfl (fun hc6 => ?_) (fun hc6 => ?_)
                ·
                  refine c_ift rfl ?_
                  refine c_seq ?_
                  refine c_region ?_
                  refine o_val (v := .pointer (some ⟨b1, 1, none⟩)) (x_fieldAddrO fa_25_1 rfl) ?_
                  refine o_val (v := .string (bs (t))) (x_load Tryz.isAgg9 rfl (hF.cell 0 rfl rfl)) ?_
                  refine o_call (plain_c t hk.1 _ (hG.ext hF.same)) (x_call1 en_88 rfl rfl) ?_
                  rintro _ w ⟨rfl, hE⟩
                  replace hF := hF.ext hE
                  clear hE
                  refine o_val (v := .bool (Lib.validD t)) (x_assign rfl) ?_
                  refine o_nil ?_
                  refine e_seq ?_
                  refine c_ret (e_ret (post_ret (res_1 (v := .bool (Lib.validD t)) rfl rfl) ?_))
                  refine ⟨?_, hF.same⟩
                  clear hF hR hK hX hb1
                  simp_all [nodeB, List.length_pos_iff]
                ·
                  refine c_iff rfl ?_
                  refine c_seq ?_
                  refine c_region ?_
                  refine o_val (v := .bool (decide ((k : Int) = (7 : Int)))) (x_eql rfl rfl) ?_
                  refine o_val (v := .bool (decide ((k : Int) = (7 : Int)))) (x_assign rfl) ?_
                  refine o_nil ?_
                  refine e_seq ?_
                  refine c_splitd (d := 74) (p := (k : Int) = (7 : Int)) rfl (fun hc7 => ?_) (fun hc7 => ?_)
                  ·
                    refine c_ift rfl ?_
                    refine c_seq ?_
                    refine c_region ?_
                    refine o_val (v := .pointer (some ⟨b1, 1, none⟩)) (x_fieldAddrO fa_25_1 rfl) ?_
                    refine o_val (v := .string (bs (t))) (x_load Tryz.isAgg9 rfl (hF.cell 0 rfl rfl)) ?_
                    refine o_call (hole_c t hk.1 _ (hG.ext hF.same)) (x_call1 en_89 rfl rfl) ?_
                    rintro _ w ⟨rfl, hE⟩
                    replace hF := hF.ext hE
                    clear hE
                    refine o_val (v := .bool (holeB t)) (x_assign rfl) ?_
                    refine o_nil ?_
                    refine e_seq ?_
                    refine c_ret (e_ret (post_ret (res_1 (v := .bool (holeB t)) rfl rfl) ?_))
                    refine ⟨?_, hF.same⟩
                    clear hF hR hK hX hb1
                    simp_all [nodeB, List.length_pos_iff]
                  ·
                    refine c_iff rfl ?_
                    refine c_skip ?_
                    refine e_block ?_
                    refine e_seq ?_
                    refine c_seq ?_
                    refine c_region ?_
                    refine o_val (v := .bool false) (x_assign rfl) ?_
                    refine o_nil ?_
                    refine e_seq ?_
                    refine c_ret (e_ret (post_ret (res_1 (v := .bool false) rfl rfl) ?_))
                    refine ⟨?_, hF.same⟩
                    clear hF hR hK hX hb1
                    simp_all [nodeB, List.length_pos_iff]
end Go.Scarf
