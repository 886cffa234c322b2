/- A part of the proof. -/
import Derived.Test.YtonoededmmohhaaGreatDoorY1
import Derived.Test.YtonoededmmohhaaGreatDoorY4
import Derived.Test.YtonoededmmohhaaGreatDoorW4
set_option linter.all false
namespace Go.Scarf
open Go.RowKit Go.Proofs
theorem not_more {acc : List Str} {s : Str} {j : Nat} (h : j < acc.length) (hn : s ∉ acc.take j) (he : ¬ acc[j] = s) : s ∉ acc.take (j + 1) := by
  rw [List.take_succ_eq_append_getElem h]
  intro hm
  rcases List.mem_append.1 hm with hm | hm
  · exact hn hm
  · exact he (List.mem_singleton.1 hm).symm
set_option maxHeartbeats 4000000 in
set_option maxRecDepth 10000 in
theorem rids_node (k : Int) (t : Str) (ks : List Str) (xs : List Tree) (key : Str) (A : Option Addr) (c : Nat) (B : Option Addr) (e : Nat) (S : Nat → Prop) (w0 : World) (hsz : sizeT (.node k t ks xs) ≤ 1000000000) (hm : maxL (.node k t ks xs) ≤ 16777216) (hR : Rep S w0 (treeD (.node k t ks xs)) [.int .i64 (k), .string (bs (t)), .slice (A) (ks.length) (c), .slice (B) (xs.length) (e)]) (hX : Rep S w0 (.slice (treesD xs)) [.slice B xs.length e]) (hxl : xs.length ≤ 1000000000) : Calls Tryz.prog 14 #[.agg #[.int .i64 (k), .string (bs (t)), .slice (A) (ks.length) (c), .slice (B) (xs.length) (e)], .string (bs key)] w0 (Ret fun v w' => ∃ A c, v = .tuple #[.slice A ((idsV (.node k t ks xs) key).getD []).length c, .bool (idsV (.node k t ks xs) key).isSome] ∧ Rep (Btw w0 w') w' (strsD ((idsV (.node k t ks xs) key).getD [])) [.slice A ((idsV (.node k t ks xs) key).getD []).length c] ∧ Same [] w0 w') := by
  refine calls_start Tryz.func14 rfl Tryz.ntmps14 (Nat.le_of_ble_eq_true rfl) (args_2 _ _) ?_
  have hF := FR.start w0 []
  refine c_seq ?_
  refine c_region ?_
  refine o_box (v := .agg #[.int .i64 (k), .string (bs (t)), .slice (A) (ks.length) (c), .slice (B) (xs.length) (e)]) (cs := #[.int .i64 (k), .string (bs (t)), .slice (A) (ks.length) (c), .slice (B) (xs.length) (e)]) hF rfl rfl ?_
  clear hF; intro b1 w hb1 hF hE
  clear hE
  refine o_val (x_assign rfl) ?_
  refine o_val (x_assign rfl) ?_
  refine o_nil ?_
  refine e_seq ?_
  refine c_seq ?_
  refine c_region ?_
  refine o_val (v := .agg #[.int .i64 (k), .string (bs (t)), .slice (A) (ks.length) (c), .slice (B) (xs.length) (e)]) (x_loadS (l := [.int .i64 (k), .string (bs (t)), .slice (A) (ks.length) (c), .slice (B) (xs.length) (e)]) Tryz.isAgg32 Tryz.sizeOf32 rfl rfl (hF.cellsAll 0 rfl)) ?_
  refine o_call (rright_t (.node k t ks xs) hsz (by omega) _ _ _ (hF.rep hR)) (x_call1 en_30 rfl rfl) ?_
  rintro _ w ⟨rfl, hE⟩
  replace hF := hF.ext hE
  clear hE
  refine o_val (x_assign rfl) ?_
  refine o_nil ?_
  refine e_seq ?_
  refine c_seq ?_
  refine c_seq ?_
  refine c_region ?_
  refine o_val (x_move rfl) ?_
  refine o_val (v := .bool (!(rightB (.node k t ks xs)))) (x_not rfl) ?_
  refine o_val (x_move rfl) ?_
  refine o_split (d := 18) (b := !(rightB (.node k t ks xs))) rfl (fun hg0 => ?_) (fun hg0 => ?_)
  ·
    refine o_off ?_
    refine o_off ?_
    refine o_off ?_
    refine o_val (x_pickt rfl rfl) ?_
    refine o_nil ?_
    refine e_seq ?_
    refine c_ift rfl ?_
    refine c_seq ?_
    refine c_region ?_
    refine o_val (x_assign rfl) ?_
    refine o_val (x_assign rfl) ?_
    refine o_nil ?_
    refine e_seq ?_
    refine c_ret (e_ret (post_ret (res_2 (v := .slice (none) (0) (0)) (x := .bool false) rfl rfl rfl) ?_))
    refine ⟨none, 0, ?_, ?_, hF.same⟩
    all_goals rw [show idsV (.node k t ks xs) key = none from (if_neg (fun h => by obtain ⟨h1, h2⟩ := h; simp_all [Tree.kind]))]
    · rfl
    · exact Rep.nil_slice 0 (by omega) none
  ·
    refine o_val (v := .pointer (some ⟨b1, 0, none⟩)) (x_fieldAddrO fa_32_0 rfl) ?_
    refine o_val (v := .int .i64 (k)) (x_load Tryz.isAgg3 rfl (hF.cell 0 rfl rfl)) ?_
    refine o_val (v := .bool (decide ((k : Int) ≠ (5 : Int)))) (x_neq rfl rfl) ?_
    refine o_val (x_pickf rfl rfl) ?_
    refine o_nil ?_
    refine e_seq ?_
    refine c_splitd (d := 22) (p := (k : Int) ≠ (5 : Int)) rfl (fun hc0 => ?_) (fun hc0 => ?_)
    ·
      refine c_ift rfl ?_
      refine c_seq ?_
      refine c_region ?_
      refine o_val (x_assign rfl) ?_
      refine o_val (x_assign rfl) ?_
      refine o_nil ?_
      refine e_seq ?_
      refine c_ret (e_ret (post_ret (res_2 (v := .slice (none) (0) (0)) (x := .bool false) rfl rfl rfl) ?_))
      refine ⟨none, 0, ?_, ?_, hF.same⟩
      all_goals rw [show idsV (.node k t ks xs) key = none from (if_neg (fun h => by obtain ⟨h1, h2⟩ := h; simp_all [Tree.kind]))]
      · rfl
      · exact Rep.nil_slice 0 (by omega) none
    ·
      refine c_iff rfl ?_
      refine c_skip ?_
      refine e_seq ?_
      refine c_seq ?_
      refine c_region ?_
      refine o_val (x_assign rfl) ?_
      refine o_nil ?_
      refine e_seq ?_
      refine c_seq ?_
      refine c_seq ?_
      refine c_region ?_
      refine o_val (x_assign rfl) ?_
      refine o_nil ?_
      refine e_seq ?_
      refine c_block ?_
      have hr5 : rightB (.node k t ks xs) = true ∧ k = 5 := by simp_all
      replace hF : FR w0 [] ([(b1, .cells #[.int .i64 (k), .string (bs (t)), .slice (A) (ks.length) (c), .slice (B) (xs.length) (e)] 32)] ++ ([] ++ [])) _ := hF
      refine c_loop (fun μ σ w => ∃ (i : Nat), ∃ (acc : List Str), ∃ (A1 : Option Addr), ∃ (c1 : Nat), ∃ (sb : List (Nat × Obj)), μ = xs.length - i ∧ (i ≤ xs.length) ∧ (idsK key (xs.drop i) acc = idsK key xs []) ∧ (acc.length = i) ∧ (∀ s ∈ acc, s.length ≤ 140737488355328) ∧ (SlB 9 1 A1 acc.length c1 (acc.map fun s => Value.string (bs s)) sb) ∧ AllEq σ [(1, .string (bs (key))), (2, .pointer (some ⟨b1, 0, none⟩)), (7, .slice (A1) (acc.length) (c1)), (8, .int .i64 ((i : Int)))] ∧ FR w0 [] ([(b1, .cells #[.int .i64 (k), .string (bs (t)), .slice (A) (ks.length) (c), .slice (B) (xs.length) (e)] 32)] ++ (sb ++ [])) w) _ ⟨0, [], none, 0, [], rfl, (Nat.zero_le _), (rfl), (rfl), (by simp), (SlB.nil _ _), ⟨rfl, rfl, rfl, rfl, trivial⟩, hF⟩ ?_
      clear hF; rintro μ σ w ⟨i, acc, A1, c1, sb, rfl, hi, hq, hal, hlim, hS, hs, hF⟩
      refine Cg.slots hs ?_
      clear hs; intro σ
      refine c_seq ?_
      refine c_seq ?_
      refine c_region ?_
      refine o_val (x_move rfl) ?_
      refine o_val (v := .pointer (some ⟨b1, 3, none⟩)) (x_fieldAddrO fa_32_3 rfl) ?_
      refine o_val (v := .slice (B) (xs.length) (e)) (x_load Tryz.isAgg30 rfl (hF.cell 0 rfl rfl)) ?_
      refine o_val (v := .int .i64 ((xs.length : Nat))) (x_len_slice Tryz.underlying30 rfl) ?_
      refine o_val (v := .bool (decide (((i : Int) : Int) < ((xs.length : Nat) : Int)))) (x_lss rfl rfl) ?_
      refine o_nil ?_
      refine e_seq ?_
      refine c_splitd (d := 27) (p := ((i : Int) : Int) < ((xs.length : Nat) : Int)) rfl (fun hc1 => ?_) (fun hc1 => ?_)
      ·
        refine c_ift rfl ?_
        refine c_skip ?_
        refine e_seq ?_
        refine c_seq ?_
        refine c_block ?_
        refine c_seq ?_
        refine c_region ?_
        refine o_val (v := .pointer (some ⟨b1, 3, none⟩)) (x_fieldAddrO fa_32_3 rfl) ?_
        refine o_val (v := .slice (B) (xs.length) (e)) (x_load Tryz.isAgg30 rfl (hF.cell 0 rfl rfl)) ?_
        refine o_val (x_move rfl) ?_
        obtain ⟨ad1, cs1, hA1, hl1, hk1, hx1⟩ := hX.tree_elem (i := i) (by omega)
        have ho1 := hx1.one_
        refine o_val (v := .pointer (some (ad1.add (i * 4)))) (x_indexAddrA (i := (i : Int)) sl_30 rfl hA1 rfl (by omega) (by omega)) ?_
        refine o_val (v := .agg (List.toArray cs1)) (x_loadS (l := cs1) Tryz.isAgg32 Tryz.sizeOf32 rfl hl1 (hF.cells0 hk1)) ?_
        refine o_val (x_move rfl) ?_
        refine o_call (rgetX_c xs[i] key (by have := sizeTs_mem (List.getElem_mem (l := xs) (n := i) (by omega)); rw [sizeT] at hsz; omega) (by have := maxLs_mem (List.getElem_mem (l := xs) (n := i) (by omega)); rw [maxL] at hm; omega) _ _ cs1 (hF.rep hx1)) (x_call2 en_31 rfl rfl rfl) ?_
        rintro _ w ⟨ct, rfl, hRt, hE⟩
        have hsz2 := get_size xs[i] key
        have hmx2 := get_max xs[i] key
        have hsi := sizeTs_mem (List.getElem_mem (l := xs) (n := i) (by omega))
        have hmi := maxLs_mem (List.getElem_mem (l := xs) (n := i) (by omega))
        have hrx := right_kid hr5.1 (List.getElem_mem (l := xs) (n := i) (by omega))
        have hri := id_right (key := key) hrx
        obtain ⟨y, hy⟩ : ∃ y, (getV xs[i] key).1 = y := ⟨_, rfl⟩
        rw [hy] at hRt hsz2 hmx2 hri
        obtain ⟨k2, t2, ks2, xs2⟩ := y
        have hRt0 := hRt
        obtain ⟨A2, c2, B2, e2, rfl, -, -, -, -⟩ := hRt0.tree_inv
        replace hF := hF.ext hE
        clear hE hRt0
        refine o_val (x_move rfl) ?_
        refine o_val (x_extract rfl rfl) ?_
        refine o_val (x_extract rfl rfl) ?_
        refine o_lay (l := [.int .i64 (k2), .string (bs (t2)), .slice (A2) (ks2.length) (c2), .slice (B2) (xs2.length) (e2)]) hF Tryz.zeroValue32 Tryz.sizeOf32 rfl (v := .agg #[.int .i64 (k2), .string (bs (t2)), .slice (A2) (ks2.length) (c2), .slice (B2) (xs2.length) (e2)]) rfl rfl (by simp [one]) rfl ?_
        clear hF; intro b2 w hb2 hF hE
        replace hRt := hRt.ext hE
        clear hE
        refine o_val (x_assign rfl) ?_
        refine o_nil ?_
        refine e_seq ?_
        refine c_seq ?_
        refine c_seq ?_
        refine c_region ?_
        refine o_val (x_move rfl) ?_
        refine o_val (v := .bool (!((getV xs[i] key).2))) (x_not rfl) ?_
        refine o_val (x_move rfl) ?_
        refine o_split (d := 42) (b := !((getV xs[i] key).2)) rfl (fun hg2 => ?_) (fun hg2 => ?_)
        ·
          refine o_off ?_
          refine o_off ?_
          refine o_off ?_
          refine o_off ?_
          refine o_off ?_
          refine o_off ?_
          refine o_off ?_
          refine o_off ?_
          refine o_val (x_pickt rfl rfl) ?_
          refine o_nil ?_
          refine e_seq ?_
          refine c_ift rfl ?_
          refine c_seq ?_
          refine c_region ?_
          refine o_val (x_assign rfl) ?_
          refine o_val (x_assign rfl) ?_
          refine o_nil ?_
          refine e_seq ?_
          refine c_ret (e_ret (post_ret (res_2 (v := .slice (none) (0) (0)) (x := .bool false) rfl rfl rfl) ?_))
          refine ⟨none, 0, ?_, ?_, hF.same⟩
          all_goals rw [show idsV (.node k t ks xs) key = none from (by rw [idsV, if_pos (show rightB (.node k t ks xs) = true ∧ (Tree.node k t ks xs).kind = 5 from hr5)]; show idsK key xs [] = none; rw [← hq]; exact idsK_stop (by omega) (fun h => by have h1 := h.1; rw [hri, idK] at h1; simp_all [Tree.kind]))]
          · rfl
          · exact Rep.nil_slice 0 (by omega) none
        ·
          refine o_val (v := .pointer (some ⟨b2, 0, none⟩)) (x_fieldAddrO fa_32_0 rfl) ?_
          refine o_val (v := .int .i64 (k2)) (x_load Tryz.isAgg3 rfl (hF.cell 0 rfl rfl)) ?_
          refine o_val (v := .bool (decide ((k2 : Int) ≠ (4 : Int)))) (x_neq rfl rfl) ?_
          refine o_val (x_move rfl) ?_
          refine o_splitd (d := 46) (p := (k2 : Int) ≠ (4 : Int)) rfl (fun hg3 => ?_) (fun hg3 => ?_)
          ·
            refine o_val (v := .pointer (some ⟨b2, 0, none⟩)) (x_fieldAddrO fa_32_0 rfl) ?_
            refine o_val (v := .int .i64 (k2)) (x_load Tryz.isAgg3 rfl (hF.cell 0 rfl rfl)) ?_
            refine o_val (v := .bool (decide ((k2 : Int) ≠ (3 : Int)))) (x_neq rfl rfl) ?_
            refine o_val (x_pickt rfl rfl) ?_
            refine o_val (x_pickf rfl rfl) ?_
            refine o_nil ?_
            refine e_seq ?_
            refine c_splitd (d := 51) (p := (k2 : Int) ≠ (3 : Int)) rfl (fun hc2 => ?_) (fun hc2 => ?_)
            ·
              refine c_ift rfl ?_
              refine c_seq ?_
              refine c_region ?_
              refine o_val (x_assign rfl) ?_
              refine o_val (x_assign rfl) ?_
              refine o_nil ?_
              refine e_seq ?_
              refine c_ret (e_ret (post_ret (res_2 (v := .slice (none) (0) (0)) (x := .bool false) rfl rfl rfl) ?_))
              refine ⟨none, 0, ?_, ?_, hF.same⟩
              all_goals rw [show idsV (.node k t ks xs) key = none from (by rw [idsV, if_pos (show rightB (.node k t ks xs) = true ∧ (Tree.node k t ks xs).kind = 5 from hr5)]; show idsK key xs [] = none; rw [← hq]; exact idsK_stop (by omega) (fun h => by have h1 := h.1; rw [hri, idK] at h1; simp_all [Tree.kind]))]
              · rfl
              · exact Rep.nil_slice 0 (by omega) none
            ·
              refine c_iff rfl ?_
              refine c_skip ?_
              refine e_seq ?_
              refine c_seq ?_
              refine c_region ?_
              refine o_val (v := .agg #[.int .i64 (k2), .string (bs (t2)), .slice (A2) (ks2.length) (c2), .slice (B2) (xs2.length) (e2)]) (x_loadS (l := [.int .i64 (k2), .string (bs (t2)), .slice (A2) (ks2.length) (c2), .slice (B2) (xs2.length) (e2)]) Tryz.isAgg32 Tryz.sizeOf32 rfl rfl (hF.cellsAll 0 rfl)) ?_
              have hid : idB xs[i] key = true := by rw [hri, idK]; simp_all [Tree.kind]
              have hidS : compS (sortedV (.node k2 t2 ks2 xs2)) = (idS xs[i] key) := by rw [idS, ← id_right hrx, hid, if_pos rfl, hy]
              refine o_call (rcanon_c (.node k2 t2 ks2 xs2) (by rw [sizeT] at hsz; omega) (by rw [maxL] at hm; omega) _ _ _ hRt) (x_call1 en_32 rfl rfl) ?_
              rintro _ w ⟨rfl, hE⟩
              rw [hidS]
              replace hF := hF.ext hE
              replace hRt := hRt.ext hE
              clear hE
              refine o_val (x_move rfl) ?_
              refine o_val (x_extract rfl rfl) ?_
              refine o_val (x_extract rfl rfl) ?_
              refine o_val (x_assign rfl) ?_
              refine o_val (x_assign rfl) ?_
              refine o_nil ?_
              refine e_seq ?_
              refine c_seq ?_
              refine c_seq ?_
              refine c_region ?_
              refine o_val (x_assign rfl) ?_
              refine o_nil ?_
              refine e_seq ?_
              refine c_block ?_
              refine c_loop (fun μ σ w => ∃ (j : Nat), μ = acc.length - j ∧ (j ≤ acc.length) ∧ ((idS (xs[i]'(by omega)) key) ∉ acc.take j) ∧ AllEq σ [(1, .string (bs (key))), (2, .pointer (some ⟨b1, 0, none⟩)), (7, .slice (A1) (acc.length) (c1)), (8, .int .i64 ((i : Int))), (11, .string (bs ((idS xs[i] key)))), (13, .int .i64 ((j : Int)))] ∧ FR w0 [] ([(b2, .cells #[.int .i64 (k2), .string (bs (t2)), .slice (A2) (ks2.length) (c2), .slice (B2) (xs2.length) (e2)] 32), (b1, .cells #[.int .i64 (k), .string (bs (t)), .slice (A) (ks.length) (c), .slice (B) (xs.length) (e)] 32)] ++ (sb ++ [])) w) _ ⟨0, rfl, (Nat.zero_le _), (by simp), ⟨rfl, rfl, rfl, rfl, rfl, rfl, trivial⟩, hF⟩ ?_
              clear hF; rintro μ σ w ⟨j, rfl, hj, hno, hs, hF⟩
              refine Cg.slots hs ?_
              clear hs; intro σ
              refine c_seq ?_
              refine c_seq ?_
              refine c_region ?_
              refine o_val (x_move rfl) ?_
              refine o_val (x_move rfl) ?_
              refine o_val (v := .int .i64 ((acc.length : Nat))) (x_len_slice Tryz.underlying22 rfl) ?_
              refine o_val (v := .bool (decide (((j : Int) : Int) < ((acc.length : Nat) : Int)))) (x_lss rfl rfl) ?_
              refine o_nil ?_
              refine e_seq ?_
              refine c_splitd (d := 60) (p := ((j : Int) : Int) < ((acc.length : Nat) : Int)) rfl (fun hc3 => ?_) (fun hc3 => ?_)
              ·
                refine c_ift rfl ?_
                refine c_skip ?_
                refine e_seq ?_
                refine c_seq ?_
                refine c_block ?_
                refine c_seq ?_
                refine c_region ?_
                refine o_val (x_move rfl) ?_
                refine o_val (x_move rfl) ?_
                obtain ⟨ad, hAd⟩ := some_of hS (by omega)
                have hAt := strs_at hS hF hAd
                refine o_val (v := .pointer (some (ad.add (j * 1)))) (x_indexAddrA (i := (j : Int)) sl_22 rfl hAd rfl (by omega) (by omega)) ?_
                refine o_val (v := .string (bs ((acc[j]'(by omega))))) (x_load Tryz.isAgg9 rfl (hAt j (by omega))) ?_
                refine o_val (x_move rfl) ?_
                refine o_val (v := .bool (decide (((acc[j]'(by omega)) : Str) = (idS xs[i] key)))) (x_eqls rfl rfl) ?_
                refine o_nil ?_
                refine e_seq ?_
                refine c_splitd (d := 68) (p := ((acc[j]'(by omega)) : Str) = (idS xs[i] key)) rfl (fun hc4 => ?_) (fun hc4 => ?_)
                ·
                  refine c_ift rfl ?_
                  refine c_seq ?_
                  refine c_region ?_
                  refine o_val (x_assign rfl) ?_
                  refine o_val (x_assign rfl) ?_
                  refine o_nil ?_
                  refine e_seq ?_
                  refine c_ret (e_ret (post_ret (res_2 (v := .slice (none) (0) (0)) (x := .bool false) rfl rfl rfl) ?_))
                  refine ⟨none, 0, ?_, ?_, hF.same⟩
                  all_goals rw [show idsV (.node k t ks xs) key = none from (by rw [idsV, if_pos (show rightB (.node k t ks xs) = true ∧ (Tree.node k t ks xs).kind = 5 from hr5)]; show idsK key xs [] = none; rw [← hq]; exact idsK_stop (by omega) (fun h => h.2 (by have he : acc[j] = (idS xs[i] key) := (by assumption); rw [← he]; exact List.getElem_mem _)))]
                  · rfl
                  · exact Rep.nil_slice 0 (by omega) none
                ·
                  refine c_iff rfl ?_
                  refine c_skip ?_
                  refine e_block ?_
                  refine e_seq ?_
                  refine c_region ?_
                  refine o_val (x_move rfl) ?_
                  refine o_val (v := .int .i64 (((j + 1 : Nat) : Int))) (x_add rfl rfl (wrap_to (by omega) (by omega) (by omega))) ?_
                  refine o_val (x_assign rfl) ?_
                  refine o_nil ?_
                  refine e_inv ⟨_, ?_, j + 1, rfl, (by omega), (not_more (by omega) hno (by assumption)), ⟨rfl, rfl, rfl, rfl, rfl, rfl, trivial⟩, hF⟩
                  omega
              ·
                refine c_iff rfl ?_
                refine c_exit (e_exit rfl ?_)
                refine e_seq ?_
                have hnew : (idS xs[i] key) ∉ acc := by rw [List.take_of_length_le (by omega)] at hno; exact hno
                refine c_region ?_
                refine o_val (x_move rfl) ?_
                refine o_val (x_move rfl) ?_
                refine o_new (v := fun b => .slice (some ⟨b, 0, none⟩) 1 1) hF (x_buildSlice (cs := #[.string (bs ((idS xs[i] key)))]) Tryz.underlying22 Tryz.sizeOf9 Tryz.zeroValue9 (by decide) (by decide) (by kernel_rfl)) ?_
                clear hF; intro b3 w hb3 hF hE
                clear hE
                refine o_append [(b3, .cells #[.string (bs ((idS xs[i] key)))] 9), (b2, .cells #[.int .i64 (k2), .string (bs (t2)), .slice (A2) (ks2.length) (c2), .slice (B2) (xs2.length) (e2)] 32), (b1, .cells #[.int .i64 (k), .string (bs (t)), .slice (A) (ks.length) (c), .slice (B) (xs.length) (e)] 32)] [] (news := [.string (bs ((idS xs[i] key)))]) (len' := (acc ++ [(idS xs[i] key)]).length) (ys := ((acc ++ [(idS xs[i] key)]).map fun s => Value.string (bs s))) el_22 hF hS rfl rfl (rfl) (fun _ => ⟨_, rfl, cells_opt (hF.cellsAll 0 rfl)⟩) (by simp [Value.oneCell']) (by simp only [maxLen]; omega) (by simp) (by simp) (by omega) ?_
                clear hF; intro A4 c4 o_4 w hS4_o hF hE hnew
                clear hE hnew
                refine o_val (x_assign rfl) ?_
                refine o_nil ?_
                refine e_block ?_
                refine e_seq ?_
                refine c_region ?_
                refine o_val (x_move rfl) ?_
                refine o_val (v := .int .i64 (((i + 1 : Nat) : Int))) (x_add rfl rfl (wrap_to (by omega) (by omega) (by omega))) ?_
                refine o_val (x_assign rfl) ?_
                refine o_nil ?_
                refine e_inv ⟨_, ?_, i + 1, acc ++ [(idS xs[i] key)], A4, c4, o_4, rfl, (by omega), (by rw [← idsK_next (by omega) hid hnew]; exact hq), (by rw [List.length_append, hal]; rfl), (lim_step hlim (idS_len (by rw [maxL] at hm; omega))), (hS4_o), ⟨rfl, rfl, rfl, rfl, trivial⟩, hF.drop 2⟩
                omega
          ·
            refine o_off ?_
            refine o_off ?_
            refine o_off ?_
            refine o_val (x_pickf rfl rfl) ?_
            refine o_val (x_pickf rfl rfl) ?_
            refine o_nil ?_
            refine e_seq ?_
            refine c_iff rfl ?_
            refine c_skip ?_
            refine e_seq ?_
            refine c_seq ?_
            refine c_region ?_
            refine o_val (v := .agg #[.int .i64 (k2), .string (bs (t2)), .slice (A2) (ks2.length) (c2), .slice (B2) (xs2.length) (e2)]) (x_loadS (l := [.int .i64 (k2), .string (bs (t2)), .slice (A2) (ks2.length) (c2), .slice (B2) (xs2.length) (e2)]) Tryz.isAgg32 Tryz.sizeOf32 rfl rfl (hF.cellsAll 0 rfl)) ?_
            have hid : idB xs[i] key = true := by rw [hri, idK]; simp_all [Tree.kind]
            have hidS : compS (sortedV (.node k2 t2 ks2 xs2)) = (idS xs[i] key) := by rw [idS, ← id_right hrx, hid, if_pos rfl, hy]
            refine o_call (rcanon_c (.node k2 t2 ks2 xs2) (by rw [sizeT] at hsz; omega) (by rw [maxL] at hm; omega) _ _ _ hRt) (x_call1 en_32 rfl rfl) ?_
            rintro _ w ⟨rfl, hE⟩
            rw [hidS]
            replace hF := hF.ext hE
            replace hRt := hRt.ext hE
            clear hE
            refine o_val (x_move rfl) ?_
            refine o_val (x_extract rfl rfl) ?_
            refine o_val (x_extract rfl rfl) ?_
            refine o_val (x_assign rfl) ?_
            refine o_val (x_assign rfl) ?_
            refine o_nil ?_
            refine e_seq ?_
            refine c_seq ?_
            refine c_seq ?_
            refine c_region ?_
            refine o_val (x_assign rfl) ?_
            refine o_nil ?_
            refine e_seq ?_
            refine c_block ?_
            refine c_loop (fun μ σ w => ∃ (j : Nat), μ = acc.length - j ∧ (j ≤ acc.length) ∧ ((idS (xs[i]'(by omega)) key) ∉ acc.take j) ∧ AllEq σ [(1, .string (bs (key))), (2, .pointer (some ⟨b1, 0, none⟩)), (7, .slice (A1) (acc.length) (c1)), (8, .int .i64 ((i : Int))), (11, .string (bs ((idS xs[i] key)))), (13, .int .i64 ((j : Int)))] ∧ FR w0 [] ([(b2, .cells #[.int .i64 (k2), .string (bs (t2)), .slice (A2) (ks2.length) (c2), .slice (B2) (xs2.length) (e2)] 32), (b1, .cells #[.int .i64 (k), .string (bs (t)), .slice (A) (ks.length) (c), .slice (B) (xs.length) (e)] 32)] ++ (sb ++ [])) w) _ ⟨0, rfl, (Nat.zero_le _), (by simp), ⟨rfl, rfl, rfl, rfl, rfl, rfl, trivial⟩, hF⟩ ?_
            clear hF; rintro μ σ w ⟨j, rfl, hj, hno, hs, hF⟩
            refine Cg.slots hs ?_
            clear hs; intro σ
            refine c_seq ?_
            refine c_seq ?_
            refine c_region ?_
            refine o_val (x_move rfl) ?_
            refine o_val (x_move rfl) ?_
            refine o_val (v := .int .i64 ((acc.length : Nat))) (x_len_slice Tryz.underlying22 rfl) ?_
            refine o_val (v := .bool (decide (((j : Int) : Int) < ((acc.length : Nat) : Int)))) (x_lss rfl rfl) ?_
            refine o_nil ?_
            refine e_seq ?_
            refine c_splitd (d := 60) (p := ((j : Int) : Int) < ((acc.length : Nat) : Int)) rfl (fun hc3 => ?_) (fun hc3 => ?_)
            ·
              refine c_ift rfl ?_
              refine c_skip ?_
              refine e_seq ?_
              refine c_seq ?_
              refine c_block ?_
              refine c_seq ?_
              refine c_region ?_
              refine o_val (x_move rfl) ?_
              refine o_val (x_move rfl) ?_
              obtain ⟨ad, hAd⟩ := some_of hS (by omega)
              have hAt := strs_at hS hF hAd
              refine o_val (v := .pointer (some (ad.add (j * 1)))) (x_indexAddrA (i := (j : Int)) sl_22 rfl hAd rfl (by omega) (by omega)) ?_
              refine o_val (v := .string (bs ((acc[j]'(by omega))))) (x_load Tryz.isAgg9 rfl (hAt j (by omega))) ?_
              refine o_val (x_move rfl) ?_
              refine o_val (v := .bool (decide (((acc[j]'(by omega)) : Str) = (idS xs[i] key)))) (x_eqls rfl rfl) ?_
              refine o_nil ?_
              refine e_seq ?_
              refine c_splitd (d := 68) (p := ((acc[j]'(by omega)) : Str) = (idS xs[i] key)) rfl (fun hc4 => ?_) (fun hc4 => ?_)
              ·
                refine c_ift rfl ?_
                refine c_seq ?_
                refine c_region ?_
                refine o_val (x_assign rfl) ?_
                refine o_val (x_assign rfl) ?_
                refine o_nil ?_
                refine e_seq ?_
                refine c_ret (e_ret (post_ret (res_2 (v := .slice (none) (0) (0)) (x := .bool false) rfl rfl rfl) ?_))
                refine ⟨none, 0, ?_, ?_, hF.same⟩
                all_goals rw [show idsV (.node k t ks xs) key = none from (by rw [idsV, if_pos (show rightB (.node k t ks xs) = true ∧ (Tree.node k t ks xs).kind = 5 from hr5)]; show idsK key xs [] = none; rw [← hq]; exact idsK_stop (by omega) (fun h => h.2 (by have he : acc[j] = (idS xs[i] key) := (by assumption); rw [← he]; exact List.getElem_mem _)))]
                · rfl
                · exact Rep.nil_slice 0 (by omega) none
              ·
                refine c_iff rfl ?_
                refine c_skip ?_
                refine e_block ?_
                refine e_seq ?_
                refine c_region ?_
                refine o_val (x_move rfl) ?_
                refine o_val (v := .int .i64 (((j + 1 : Nat) : Int))) (x_add rfl rfl (wrap_to (by omega) (by omega) (by omega))) ?_
                refine o_val (x_assign rfl) ?_
                refine o_nil ?_
                refine e_inv ⟨_, ?_, j + 1, rfl, (by omega), (not_more (by omega) hno (by assumption)), ⟨rfl, rfl, rfl, rfl, rfl, rfl, trivial⟩, hF⟩
                omega
            ·
              refine c_iff rfl ?_
              refine c_exit (e_exit rfl ?_)
              refine e_seq ?_
              have hnew : (idS xs[i] key) ∉ acc := by rw [List.take_of_length_le (by omega)] at hno; exact hno
              refine c_region ?_
              refine o_val (x_move rfl) ?_
              refine o_val (x_move rfl) ?_
              refine o_new (v := fun b => .slice (some ⟨b, 0, none⟩) 1 1) hF (x_buildSlice (cs := #[.string (bs ((idS xs[i] key)))]) Tryz.underlying22 Tryz.sizeOf9 Tryz.zeroValue9 (by decide) (by decide) (by kernel_rfl)) ?_
              clear hF; intro b4 w hb4 hF hE
              clear hE
              refine o_append [(b4, .cells #[.string (bs ((idS xs[i] key)))] 9), (b2, .cells #[.int .i64 (k2), .string (bs (t2)), .slice (A2) (ks2.length) (c2), .slice (B2) (xs2.length) (e2)] 32), (b1, .cells #[.int .i64 (k), .string (bs (t)), .slice (A) (ks.length) (c), .slice (B) (xs.length) (e)] 32)] [] (news := [.string (bs ((idS xs[i] key)))]) (len' := (acc ++ [(idS xs[i] key)]).length) (ys := ((acc ++ [(idS xs[i] key)]).map fun s => Value.string (bs s))) el_22 hF hS rfl rfl (rfl) (fun _ => ⟨_, rfl, cells_opt (hF.cellsAll 0 rfl)⟩) (by simp [Value.oneCell']) (by simp only [maxLen]; omega) (by simp) (by simp) (by omega) ?_
              clear hF; intro A5 c5 o_5 w hS5_o hF hE hnew
              clear hE hnew
              refine o_val (x_assign rfl) ?_
              refine o_nil ?_
              refine e_block ?_
              refine e_seq ?_
              refine c_region ?_
              refine o_val (x_move rfl) ?_
              refine o_val (v := .int .i64 (((i + 1 : Nat) : Int))) (x_add rfl rfl (wrap_to (by omega) (by omega) (by omega))) ?_
              refine o_val (x_assign rfl) ?_
              refine o_nil ?_
              refine e_inv ⟨_, ?_, i + 1, acc ++ [(idS xs[i] key)], A5, c5, o_5, rfl, (by omega), (by rw [← idsK_next (by omega) hid hnew]; exact hq), (by rw [List.length_append, hal]; rfl), (lim_step hlim (idS_len (by rw [maxL] at hm; omega))), (hS5_o), ⟨rfl, rfl, rfl, rfl, trivial⟩, hF.drop 2⟩
              omega
      ·
        refine c_iff rfl ?_
        refine c_exit (e_exit rfl ?_)
        refine e_seq ?_
        refine c_seq ?_
        refine c_region ?_
        refine o_val (x_move rfl) ?_
        refine o_val (x_assign rfl) ?_
        refine o_val (x_assign rfl) ?_
        refine o_nil ?_
        refine e_seq ?_
        refine c_ret (e_ret (post_ret (res_2 (v := .slice (A1) (acc.length) (c1)) (x := .bool true) rfl rfl rfl) ?_))
        have ei : i = xs.length := by omega
        subst ei
        have hv : idsV (.node k t ks xs) key = some acc := by rw [idsV, if_pos (show rightB (.node k t ks xs) = true ∧ (Tree.node k t ks xs).kind = 5 from hr5)]; show idsK key xs [] = some acc; rw [← hq]; exact idsK_end (by omega)
        refine ⟨A1, c1, ?_, ?_, hF.same⟩
        all_goals rw [hv]
        · rfl
        · exact hS.rep (pre := [_]) (post := []) hF (show RX w0 [] w (acc.map strD) _ from lits_of (q := acc) (fun s hs => by have := hlim s hs; omega)) (by simp)
theorem rids_c (x : Tree) (key : Str) (hsz : sizeT x ≤ 1000000000) (hm : maxL x ≤ 16777216) (S : Nat → Prop) (w0 : World) (cs : List Value) (hR : Rep S w0 (treeD x) cs) : Calls Tryz.prog 14 #[.agg cs.toArray, .string (bs key)] w0 (Ret fun v w' => ∃ A c, v = .tuple #[.slice A ((idsV x key).getD []).length c, .bool (idsV x key).isSome] ∧ Rep (Btw w0 w') w' (strsD ((idsV x key).getD [])) [.slice A ((idsV x key).getD []).length c] ∧ Same [] w0 w') := by
  obtain ⟨k, t, ks, xs⟩ := x
  have hR0 := hR
  obtain ⟨A, c, B, e, rfl, -, -, -, hX⟩ := hR0.tree_inv
  have h3 := sizeTs_len xs
  have h4 : sizeT (.node k t ks xs) = 1 + sizeTs xs := by rw [sizeT]
  exact rids_node k t ks xs key A c B e S w0 hsz hm hR hX (by omega)
end Go.Scarf
namespace Go.Scarf
open Go.RowKit Go.Proofs
def EachK (w0 : World) (bb : Nat) (xs : List Tree) (q : Tree → Bool) : Prop := ∀ x, x ∈ xs → ∀ S w cs, Same [] w0 w → Rep S w (treeD x) cs → Calls Tryz.prog 36 #[.agg cs.toArray, .pointer (some ⟨bb, 0, none⟩)] w (Ret fun v w' => v = .bool (q x) ∧ Same [] w w')
theorem EachK.ext {w0 w : World} {bb : Nat} {xs : List Tree} {q : Tree → Bool} (h : EachK w0 bb xs q) (hs : Same [] w0 w) : EachK w bb xs q := fun x hx S w' cs hw => h x hx S w' cs (hs.trans hw)
set_option maxHeartbeats 1000000 in
set_option maxRecDepth 10000 in
theorem indexK_c (xs : List Tree) (q : Tree → Bool) (bb : Nat) (B : Option Addr) (e : Nat) (S : Nat → Prop) (w0 : World) (hX : Rep S w0 (.slice (treesD xs)) [.slice B xs.length e]) (hq : EachK w0 bb xs q) : Calls Tryz.prog 55 #[.slice B xs.length e, .func (.func 36) #[] #[.pointer (some ⟨bb, 0, none⟩)]] w0 (Ret fun v w' => ∃ n : Int, v = .int .i64 n ∧ decide (0 ≤ n) = xs.any q ∧ Same [] w0 w') := by
 have hXl := hX.slice_len
 refine calls_start Tryz.func55 rfl Tryz.ntmps55 (Nat.le_of_ble_eq_true rfl) (args_2 _ _) ?_
 have hF := FR.start w0 []
 refine c_seq (c_region (o_val (x_assign rfl) (o_nil (e_seq (c_seq (c_seq (c_region (o_val (x_move rfl) (o_val (v := .int .i64 ((xs.length : Nat))) (x_len_slice Tryz.underlying30 rfl) (o_val (x_move rfl) (o_nil (e_seq (c_block ?_)))))))))))))
 refine c_loop (fun μ σ w => ∃ (j : Nat), μ = xs.length - j ∧ (j ≤ xs.length) ∧ ((xs.take j).any q = false) ∧ AllEq σ [(0, .slice (B) (xs.length) (e)), (1, .func (.func 36) #[] #[.pointer (some (⟨bb, 0, none⟩))]), (7, .int .i64 ((xs.length : Nat))), (8, .int .i64 ((j : Int)))] ∧ FR w0 [] [] w) _ ⟨0, rfl, (Nat.zero_le _), (by simp), ⟨rfl, rfl, rfl, rfl, trivial⟩, hF⟩ ?_
 clear hF; rintro μ σ w ⟨j, rfl, hj, hn, hs, hF⟩
 refine Cg.slots hs ?_
 clear hs; intro σ
 refine c_seq (c_region (o_val (v := .bool (decide (((j : Int) : Int) < ((xs.length : Nat) : Int)))) (x_lss rfl rfl) (o_nil (e_seq (c_seq ?_)))))
 refine c_splitd (d := 9) (p := ((j : Int) : Int) < ((xs.length : Nat) : Int)) rfl (fun hc0 => ?_) (fun hc0 => ?_)
 refine c_ift rfl (c_skip (e_seq (c_seq (c_block (c_seq (c_region (o_val (x_move rfl) (o_val (x_assign rfl) (o_nil (e_seq (c_seq (c_region (o_val (x_move rfl) ?_)))))))))))))
 refine o_val (x_move rfl) (o_val (x_move rfl) ?_)
 obtain ⟨ad0, cs0, hA0, hl0, hk0, hx0⟩ := hX.tree_elem (i := j) (by omega)
 have ho0 := hx0.one_
 refine o_val (v := .pointer (some (ad0.add (j * 4)))) (x_indexAddrA (i := (j : Int)) sl_30 rfl hA0 rfl (by omega) (by omega)) (o_val (v := .agg (List.toArray cs0)) (x_loadS (l := cs0) Tryz.isAgg32 Tryz.sizeOf32 rfl hl0 (hF.cells0 hk0)) ?_)
 refine o_call (hq _ (List.getElem_mem (l := xs) (n := j) (by omega)) _ _ _ hF.same (hF.rep hx0)) (x_callv1 rfl en_36 rfl rfl) ?_
 rintro _ w ⟨rfl, hE⟩
 replace hF := hF.ext hE
 clear hE
 refine o_nil (e_seq ?_)
 refine c_split (d := 16) (b := q xs[j]) rfl (fun hc1 => ?_) (fun hc1 => ?_)
 refine c_ift rfl (c_seq (c_region (o_val (x_move rfl) (o_val (x_assign rfl) (o_nil (e_seq ?_))))))
 refine c_ret (e_ret (post_ret (res_1 (v := .int .i64 ((j : Int))) rfl rfl) ?_))
 exact ⟨_, rfl, by rw [List.any_eq_true.2 ⟨_, List.getElem_mem (l := xs) (n := j) (by omega), hc1⟩]; simp, hF.same⟩
 refine c_iff rfl (c_skip (e_block (e_seq (c_region (o_val (v := .int .i64 (((j : Int) : Int) + 1)) (x_add rfl rfl (wrap_id (by omega) (by omega))) (o_val (x_move rfl) (o_nil ?_)))))))
 refine e_inv ⟨_, ?_, j + 1, rfl, (by omega), (none_take (by omega) hn hc1), ⟨rfl, rfl, rfl, rfl, trivial⟩, hF⟩
 omega
 refine c_iff rfl ?_
 refine c_exit (e_exit rfl ?_)
 refine e_seq (c_seq (c_region (o_val (x_assign rfl) (o_nil (e_seq ?_)))))
 refine c_ret (e_ret (post_ret (res_1 (v := .int .i64 ((-1))) rfl rfl) ?_))
 have eT : xs.take j = xs := List.take_of_length_le (by omega)
 rw [eT] at hn
 exact ⟨_, rfl, by rw [hn]; decide, hF.same⟩
set_option maxHeartbeats 1000000 in
set_option maxRecDepth 10000 in
theorem containsK_c (xs : List Tree) (q : Tree → Bool) (bb : Nat) (B : Option Addr) (e : Nat) (S : Nat → Prop) (w0 : World) (hX : Rep S w0 (.slice (treesD xs)) [.slice B xs.length e]) (hq : EachK w0 bb xs q) : Calls Tryz.prog 35 #[.slice B xs.length e, .func (.func 36) #[] #[.pointer (some ⟨bb, 0, none⟩)]] w0 (Ret fun v w' => v = .bool (xs.any q) ∧ Same [] w0 w') := by
 refine calls_start Tryz.func35 rfl Tryz.ntmps35 (Nat.le_of_ble_eq_true rfl) (args_2 _ _) ?_
 have hF := FR.start w0 []
 refine c_seq (c_region (o_val (x_assign rfl) (o_nil (e_seq (c_seq (c_region (o_val (x_move rfl) (o_val (x_move rfl) ?_))))))))
 refine o_call (indexK_c xs q bb B e S _ (hF.rep hX) (hq.ext hF.same)) (x_call2 en_55 rfl rfl rfl) ?_
 rintro _ w ⟨n, rfl, hn, hE⟩
 replace hF := hF.ext hE
 clear hE
 refine o_val (v := .bool (decide ((0 : Int) ≤ (n : Int)))) (x_geq rfl rfl) (o_val (x_assign rfl) (o_nil (e_seq ?_)))
 refine c_ret (e_ret (post_ret (res_1 (v := .bool (decide ((0 : Int) ≤ (n : Int)))) rfl rfl) ?_))
 exact ⟨congrArg Value.bool hn, hF.same⟩
set_option maxHeartbeats 1000000 in
set_option maxRecDepth 10000 in
theorem allCl_c (x : Tree) (key : Str) (bb : Nat) (hsz : sizeT x ≤ 1000000000) (hm : maxL x ≤ 1073741824) (S : Nat → Prop) (w0 : World) (cs : List Value) (hR : Rep S w0 (treeD x) cs) (hG : Gl w0) (hb : w0.cell? ⟨bb, 0, none⟩ = some (.string (bs key))) : Calls Tryz.prog 36 #[.agg cs.toArray, .pointer (some ⟨bb, 0, none⟩)] w0 (Ret fun v w' => v = .bool (!(idsV x key).isSome) ∧ Same [] w0 w') := by
 have hl : cs.length = 4 := hR.length.trans (size_treeD x)
 have ho := hR.one_
 refine calls_start Tryz.func36 rfl Tryz.ntmps36 (Nat.le_of_ble_eq_true rfl) (args_2 _ _) ?_
 have hF := FR.start w0 []
 refine c_seq (c_region ?_)
 refine o_box (v := .agg (List.toArray cs)) (cs := (List.toArray cs)) hF rfl rfl ?_
 clear hF; rintro b1 w hb1 hF -
 refine o_val (x_assign rfl) (o_nil (e_seq (c_seq (c_region (o_val (v := .agg (List.toArray cs)) (x_loadS (l := cs) Tryz.isAgg32 Tryz.sizeOf32 rfl hl (hF.cellsAll 0 rfl)) (o_val (v := .string (bs (key))) (x_load Tryz.isAgg9 rfl (hF.cell0 hb)) ?_))))))
 refine o_call (ids_c x key hsz hm _ _ cs (hF.rep hR) (hG.ext hF.same)) (x_call2 en_13 rfl rfl rfl) ?_
 rintro _ w ⟨A1, c1, rfl, hL, hE⟩
 replace hF := hF.ext hE
 clear hE hL
 refine o_val (x_move rfl) (o_val (x_extract rfl rfl) (o_val (x_extract rfl rfl) (o_val (x_assign rfl) (o_val (x_assign rfl) (o_nil (e_seq (c_seq (c_region (o_val (x_move rfl) (o_val (v := .bool (!((idsV x key).isSome))) (x_not rfl) (o_val (x_assign rfl) (o_nil (e_seq ?_)))))))))))))
 refine c_ret (e_ret (post_ret (res_1 (v := .bool (!((idsV x key).isSome))) rfl rfl) ?_))
 exact ⟨rfl, hF.same⟩
set_option maxHeartbeats 1000000 in
set_option maxRecDepth 10000 in
theorem allK_c (key : Str) (xs : List Tree) (B : Option Addr) (e : Nat) (S : Nat → Prop) (w0 : World) (hX : Rep S w0 (.slice (treesD xs)) [.slice B xs.length e]) (hs : ∀ x ∈ xs, sizeT x ≤ 1000000000 ∧ maxL x ≤ 1073741824) (hG : Gl w0) : Calls Tryz.prog 19 #[.string (bs key), .slice B xs.length e] w0 (Ret fun v w' => v = .bool (xs.all fun x => (idsV x key).isSome) ∧ Same [] w0 w') := by
 have hXl := hX.slice_len
 refine calls_start Tryz.func19 rfl Tryz.ntmps19 (Nat.le_of_ble_eq_true rfl) (args_2 _ _) ?_
 have hF := FR.start w0 []
 refine c_seq (c_region ?_)
 refine o_box (v := .string (bs (key))) (cs := #[.string (bs (key))]) hF rfl rfl ?_
 clear hF; rintro b1 w hb1 hF -
 refine o_val (x_assign rfl) (o_nil (e_seq (c_seq (c_region (o_val (x_move rfl) (o_val (v := .func (.func 36) #[] #[.pointer (some ⟨b1, 0, none⟩)]) (x_makeFunc01 rfl) ?_))))))
 refine o_call (containsK_c xs (fun x => !(idsV x key).isSome) b1 B e _ _ (hF.rep hX) (fun x hx S w cs hw hr => allCl_c x key b1 (hs x hx).1 (hs x hx).2 S w cs hr (hG.ext (hF.same.trans hw)) (Same.cell hw (hF.cell 0 rfl rfl)))) (x_call2 en_35 rfl rfl rfl) ?_
 rintro _ w ⟨rfl, hE⟩
 replace hF := hF.ext hE
 clear hE
 refine o_val (v := .bool (!(xs.any (fun x => !(idsV x key).isSome)))) (x_not rfl) (o_val (x_assign rfl) (o_nil (e_seq ?_)))
 refine c_ret (e_ret (post_ret (res_1 (v := .bool (!(xs.any (fun x => !(idsV x key).isSome)))) rfl rfl) ?_))
 exact ⟨congrArg Value.bool (by rw [List.not_any_eq_all_not]; simp), hF.same⟩
set_option maxHeartbeats 1000000 in
set_option maxRecDepth 10000 in
theorem rallK_c (key : Str) (xs : List Tree) (B : Option Addr) (e : Nat) (S : Nat → Prop) (w0 : World) (hX : Rep S w0 (.slice (treesD xs)) [.slice B xs.length e]) (hs : ∀ x ∈ xs, sizeT x ≤ 1000000000 ∧ maxL x ≤ 16777216) : Calls Tryz.prog 20 #[.string (bs key), .slice B xs.length e] w0 (Ret fun v w' => v = .bool (xs.all fun x => (idsV x key).isSome) ∧ Same [] w0 w') := by
 have hXl := hX.slice_len
 refine calls_start Tryz.func20 rfl Tryz.ntmps20 (Nat.le_of_ble_eq_true rfl) (args_2 _ _) ?_
 have hF := FR.start w0 []
 refine c_seq (c_region (o_val (x_assign rfl) (o_nil (e_seq (c_seq (c_seq (c_region (o_val (x_assign rfl) (o_nil (e_seq (c_block ?_)))))))))))
 refine c_loop (fun μ σ w => ∃ (j : Nat), μ = xs.length - j ∧ (j ≤ xs.length) ∧ ((xs.take j).all (fun x => (idsV x key).isSome) = true) ∧ AllEq σ [(0, .string (bs (key))), (1, .slice (B) (xs.length) (e)), (5, .int .i64 ((j : Int)))] ∧ FR w0 [] [] w) _ ⟨0, rfl, (Nat.zero_le _), (by simp), ⟨rfl, rfl, rfl, trivial⟩, hF⟩ ?_
 clear hF; rintro μ σ w ⟨j, rfl, hj, ha, hs, hF⟩
 refine Cg.slots hs ?_
 clear hs; intro σ
 refine c_seq (c_seq (c_region (o_val (x_move rfl) (o_val (x_move rfl) (o_val (v := .int .i64 ((xs.length : Nat))) (x_len_slice Tryz.underlying30 rfl) (o_val (v := .bool (decide (((j : Int) : Int) < ((xs.length : Nat) : Int)))) (x_lss rfl rfl) (o_nil (e_seq ?_))))))))
 refine c_splitd (d := 11) (p := ((j : Int) : Int) < ((xs.length : Nat) : Int)) rfl (fun hc0 => ?_) (fun hc0 => ?_)
 refine c_ift rfl (c_skip (e_seq (c_seq (c_block (c_seq (c_region (o_val (x_move rfl) (o_val (x_move rfl) ?_))))))))
 obtain ⟨ad0, cs0, hA0, hl0, hk0, hx0⟩ := hX.tree_elem (i := j) (by omega)
 have ho0 := hx0.one_
 refine o_val (v := .pointer (some (ad0.add (j * 4)))) (x_indexAddrA (i := (j : Int)) sl_30 rfl hA0 rfl (by omega) (by omega)) (o_val (v := .agg (List.toArray cs0)) (x_loadS (l := cs0) Tryz.isAgg32 Tryz.sizeOf32 rfl hl0 (hF.cells0 hk0)) (o_val (x_move rfl) ?_))
 refine o_call (rids_c xs[j] key (hs _ (List.getElem_mem (l := xs) (n := j) (by omega))).1 (hs _ (List.getElem_mem (l := xs) (n := j) (by omega))).2 _ _ cs0 (hF.rep hx0)) (x_call2 en_14 rfl rfl rfl) ?_
 rintro _ w ⟨A1, c1, rfl, hL, hE⟩
 replace hF := hF.ext hE
 clear hE hL
 refine o_val (x_move rfl) (o_val (x_extract rfl rfl) (o_val (x_extract rfl rfl) (o_val (x_assign rfl) (o_val (x_assign rfl) (o_nil (e_seq (c_seq (c_region (o_val (x_move rfl) (o_val (v := .bool (!((idsV xs[j] key).isSome))) (x_not rfl) (o_nil (e_seq ?_))))))))))))
 refine c_split (d := 24) (b := !((idsV xs[j] key).isSome)) rfl (fun hc1 => ?_) (fun hc1 => ?_)
 refine c_ift rfl (c_seq (c_region (o_val (x_assign rfl) (o_nil (e_seq ?_)))))
 refine c_ret (e_ret (post_ret (res_1 (v := .bool false) rfl rfl) ?_))
 refine ⟨congrArg Value.bool ?_, hF.same⟩
 symm
 rw [Bool.eq_false_iff]
 intro hh
 have h9 : (idsV (xs[j]'(by omega)) key).isSome = false := nb_true (by assumption)
 have h8 : (idsV (xs[j]'(by omega)) key).isSome = true := List.all_eq_true.1 hh _ (List.getElem_mem (l := xs) (n := j) (by omega))
 rw [h9] at h8
 cases h8
 refine c_iff rfl (c_skip (e_block (e_seq (c_region (o_val (x_move rfl) (o_val (v := .int .i64 (((j + 1 : Nat) : Int))) (x_add rfl rfl (wrap_to (by omega) (by omega) (by omega))) (o_val (x_assign rfl) (o_nil ?_))))))))
 refine e_inv ⟨_, ?_, j + 1, rfl, (by omega), (by rw [List.take_succ_eq_append_getElem (by omega), List.all_append, ha]; simpa using nb_false (by assumption)), ⟨rfl, rfl, rfl, trivial⟩, hF⟩
 omega
 refine c_iff rfl ?_
 refine c_exit (e_exit rfl ?_)
 refine e_seq (c_seq (c_region (o_val (x_assign rfl) (o_nil (e_seq ?_)))))
 refine c_ret (e_ret (post_ret (res_1 (v := .bool true) rfl rfl) ?_))
 have eT : xs.take j = xs := List.take_of_length_le (by omega)
 rw [eT] at ha
 exact ⟨congrArg Value.bool ha.symm, hF.same⟩
end Go.Scarf
namespace Go.Scarf
open Go.RowKit Go.Proofs
theorem item_here {k : Int} {t : Str} {ks : List Str} {xs : List Tree} {key id : Str} {j : Nat} (h : j < (idsL (.node k t ks xs) key).length) (hn : ∀ x ∈ (idsL (.node k t ks xs) key).take j, x ≠ id) (he : (idsL (.node k t ks xs) key)[j] = id) : ∃ hq : j < xs.length, itemV (.node k t ks xs) key id = (xs[j], true) := by
  have h1 := at_found h hn he
  obtain ⟨q, hq, h2, h3, -⟩ := item_at (k := k) (t := t) (ks := ks) (xs := xs) (key := key) (id := id) (by rw [h1]; omega)
  rw [h1] at h2
  obtain rfl : j = q := by omega
  exact ⟨hq, h3⟩
theorem item_none {x : Tree} {key id : Str} (hn : ∀ y ∈ idsL x key, y ≠ id) : itemV x key id = (zeroT, false) := item_no (by rw [at_none hn]; omega)
theorem no_more2 {l : List Str} {key : Str} {j : Nat} (h : j < l.length) (hn : ∀ x ∈ l.take j, x ≠ key) (he : ¬ l[j] = key) : ∀ x ∈ l.take (j + 1), x ≠ key := no_more h hn fun e => he e.symm
set_option maxHeartbeats 4000000 in
set_option maxRecDepth 10000 in
theorem ritem_node (k : Int) (t : Str) (ks : List Str) (xs : List Tree) (key id : Str) (A : Option Addr) (c : Nat) (B : Option Addr) (e : Nat) (S : Nat → Prop) (w0 : World) (hsz : sizeT (.node k t ks xs) ≤ 1000000000) (hm : maxL (.node k t ks xs) ≤ 16777216) (hky : keysT (.node k t ks xs) ≤ 8796093022208) (hR : Rep S w0 (treeD (.node k t ks xs)) [.int .i64 (k), .string (bs (t)), .slice (A) (ks.length) (c), .slice (B) (xs.length) (e)]) (hX : Rep S w0 (.slice (treesD xs)) [.slice B xs.length e]) (hxl : xs.length ≤ 1000000000) : Calls Tryz.prog 16 #[.agg #[.int .i64 (k), .string (bs (t)), .slice (A) (ks.length) (c), .slice (B) (xs.length) (e)], .string (bs key), .string (bs id)] w0 (Ret fun v w' => ∃ ct : List Value, v = .tuple #[.agg ct.toArray, .bool (itemV (.node k t ks xs) key id).2] ∧ Rep (Btw w0 w') w' (treeD (itemV (.node k t ks xs) key id).1) ct ∧ Same [] w0 w') := by
 refine calls_start Tryz.func16 rfl Tryz.ntmps16 (Nat.le_of_ble_eq_true rfl) (args_3 _ _ _) ?_
 have hF := FR.start w0 []
 refine c_seq (c_region ?_)
 refine o_box (v := .agg #[.int .i64 (k), .string (bs (t)), .slice (A) (ks.length) (c), .slice (B) (xs.length) (e)]) (cs := #[.int .i64 (k), .string (bs (t)), .slice (A) (ks.length) (c), .slice (B) (xs.length) (e)]) hF rfl rfl ?_
 clear hF; rintro b1 w hb1 hF -
 refine o_alloc (cs := #[.int .i64 (0), .string (bs ([])), .slice (none) (0) (0), .slice (none) (0) (0)]) hF Tryz.zeroValue32 rfl ?_
 clear hF; rintro b2 w hb2 hF -
 refine o_val (x_assign rfl) (o_nil (e_seq (c_seq (c_region (o_val (v := .agg #[.int .i64 (k), .string (bs (t)), .slice (A) (ks.length) (c), .slice (B) (xs.length) (e)]) (x_loadS (l := [.int .i64 (k), .string (bs (t)), .slice (A) (ks.length) (c), .slice (B) (xs.length) (e)]) Tryz.isAgg32 Tryz.sizeOf32 rfl rfl (hF.cellsAll 1 rfl)) (o_val (x_move rfl) ?_))))))
 refine o_call (rids_c (.node k t ks xs) key hsz hm _ _ [.int .i64 (k), .string (bs (t)), .slice (A) (ks.length) (c), .slice (B) (xs.length) (e)] (hF.rep hR)) (x_call2 en_14 rfl rfl rfl) ?_
 rintro _ w ⟨A1, c1, rfl, hL, hE⟩
 have hL2 : Rep (fun _ => True) w (strsD (idsL (.node k t ks xs) key)) [.slice A1 (idsL (.node k t ks xs) key).length c1] := hL.weaken fun _ _ _ => trivial
 have hL3 := hL2.slice_len
 replace hF := hF.ext hE
 clear hE hL
 refine o_val (x_move rfl) (o_val (x_extract rfl rfl) (o_val (x_extract rfl rfl) (o_val (x_assign rfl) (o_val (x_assign rfl) (o_nil (e_seq (c_seq (c_seq (c_region (o_val (x_assign rfl) (o_nil (e_seq (c_block ?_)))))))))))))
 refine c_loop (fun μ σ w => ∃ (j : Nat), μ = (idsL (.node k t ks xs) key).length - j ∧ (j ≤ (idsL (.node k t ks xs) key).length) ∧ (∀ x ∈ (idsL (.node k t ks xs) key).take j, x ≠ id) ∧ (Rep (fun _ => True) w (strsD (idsL (.node k t ks xs) key)) [.slice A1 (idsL (.node k t ks xs) key).length c1]) ∧ AllEq σ [(2, .string (bs (id))), (3, .pointer (some ⟨b1, 0, none⟩)), (6, .pointer (some ⟨b2, 0, none⟩)), (8, .slice (A1) ((idsL (.node k t ks xs) key).length) (c1)), (10, .int .i64 ((j : Int)))] ∧ FR w0 [] [(b2, .cells #[.int .i64 (0), .string (bs ([])), .slice (none) (0) (0), .slice (none) (0) (0)] 32), (b1, .cells #[.int .i64 (k), .string (bs (t)), .slice (A) (ks.length) (c), .slice (B) (xs.length) (e)] 32)] w) _ ⟨0, rfl, (Nat.zero_le _), (by simp), (hL2), ⟨rfl, rfl, rfl, rfl, rfl, trivial⟩, hF⟩ ?_
 clear hF; rintro μ σ w ⟨j, rfl, hj, hno, hL2, hs, hF⟩
 refine Cg.slots hs ?_
 clear hs; intro σ
 refine c_seq (c_seq (c_region (o_val (x_move rfl) (o_val (x_move rfl) (o_val (v := .int .i64 (((idsL (.node k t ks xs) key).length : Nat))) (x_len_slice Tryz.underlying22 rfl) (o_val (v := .bool (decide (((j : Int) : Int) < (((idsL (.node k t ks xs) key).length : Nat) : Int)))) (x_lss rfl rfl) (o_nil (e_seq ?_))))))))
 refine c_splitd (d := 20) (p := ((j : Int) : Int) < (((idsL (.node k t ks xs) key).length : Nat) : Int)) rfl (fun hc0 => ?_) (fun hc0 => ?_)
 refine c_ift rfl (c_skip (e_seq (c_seq (c_block (c_seq (c_region (o_val (x_move rfl) (o_val (x_move rfl) ?_))))))))
 obtain ⟨ad0, hA0, hk0, hx0⟩ := hL2.str_elem (i := j) (by omega)
 refine o_val (v := .pointer (some (ad0.add (j * 1)))) (x_indexAddrA (i := (j : Int)) sl_22 rfl hA0 rfl (by omega) (by omega)) (o_val (v := .string (bs ((idsL (.node k t ks xs) key)[j]))) (x_load Tryz.isAgg9 rfl hk0) (o_val (x_move rfl) (o_val (v := .bool (decide (((idsL (.node k t ks xs) key)[j] : Str) = id))) (x_eqls rfl rfl) (o_nil (e_seq ?_)))))
 refine c_splitd (d := 28) (p := ((idsL (.node k t ks xs) key)[j] : Str) = id) rfl (fun hc1 => ?_) (fun hc1 => ?_)
 refine c_ift rfl (c_seq (c_region (o_val (v := .pointer (some ⟨b1, 3, none⟩)) (x_fieldAddrO fa_32_3 rfl) (o_val (v := .slice (B) (xs.length) (e)) (x_load Tryz.isAgg30 rfl (hF.cell 1 rfl rfl)) (o_val (x_move rfl) ?_)))))
 obtain ⟨hqx, hit⟩ := item_here (by omega) hno (by assumption)
 obtain ⟨ad1, cs1, hA1, hl1, hk1, hx1⟩ := hX.tree_elem (i := j) (hqx)
 have ho1 := hx1.one_
 refine o_val (v := .pointer (some (ad1.add (j * 4)))) (x_indexAddrA (i := (j : Int)) sl_30 rfl hA1 rfl (by omega) (by omega)) (o_val (v := .agg (List.toArray cs1)) (x_loadS (l := cs1) Tryz.isAgg32 Tryz.sizeOf32 rfl hl1 (hF.cells0 hk1)) ?_)
 refine o_call (cloneR_c xs[j] _ _ cs1 (hF.rep hx1) (by have := sizeTs_mem (List.getElem_mem hqx); rw [sizeT] at hsz; omega) (by have := keysTs_mem (List.getElem_mem hqx); rw [keysT] at hky; omega)) (x_call1 en_12 rfl rfl) ?_
 rintro _ w ⟨ct, rfl, hRt, hE⟩
 have hlt : ct.length = 4 := hRt.length.trans (size_treeD _)
 have hot := hRt.one_
 have hYX := RX.made (ids := [b2, b1]) hF.same.size (fun x hx => hF.lt_ids (by grind)) hRt
 replace hF := hF.ext hE
 clear hE hRt
 refine o_store 0 (l := ct) (cs' := (List.toArray ct)) hF (by rw [hlt]; exact Tryz.sizeOf32) rfl (v := .agg (List.toArray ct)) rfl rfl (hot) rfl (by rw [hlt]; exact Nat.le_of_ble_eq_true rfl) (putA_all (by rw [hlt]; rfl)) ?_
 clear hF; intro w hF hE
 replace hYX := hYX.store hE (by simp)
 clear hE
 replace hF : FR w0 [] [(b2, .cells (List.toArray ct) 32), (b1, .cells #[.int .i64 (k), .string (bs (t)), .slice (A) (ks.length) (c), .slice (B) (xs.length) (e)] 32)] w := hF
 refine o_val (x_assign rfl) (o_nil (e_seq ?_))
 refine c_ret (e_ret (post_ret (res_ct rfl (l := ct) rfl Tryz.isAgg32 Tryz.sizeOf32 hlt (hF.cellsAll 0 rfl) (v := .bool true) rfl) ?_))
 rw [hit]
 · exact ⟨_, rfl, hYX.done, hF.same⟩
 refine c_iff rfl (c_skip (e_block (e_seq (c_region (o_val (x_move rfl) (o_val (v := .int .i64 (((j + 1 : Nat) : Int))) (x_add rfl rfl (wrap_to (by omega) (by omega) (by omega))) (o_val (x_assign rfl) (o_nil ?_))))))))
 refine e_inv ⟨_, ?_, j + 1, rfl, (by omega), (no_more2 (by omega) hno (by assumption)), (hL2), ⟨rfl, rfl, rfl, rfl, rfl, trivial⟩, hF⟩
 omega
 refine c_iff rfl ?_
 refine c_exit (e_exit rfl ?_)
 refine e_seq (c_seq (c_region ?_))
 refine o_val (w' := w) (v := .agg #[.int .i64 (0), .string (bs ([])), .slice (none) (0) (0), .slice (none) (0) (0)]) (by kernel_rfl) ?_
 refine o_store 0 (l := [.int .i64 (0), .string (bs ([])), .slice (none) (0) (0), .slice (none) (0) (0)]) (cs' := #[.int .i64 (0), .string (bs ([])), .slice (none) (0) (0), .slice (none) (0) (0)]) hF Tryz.sizeOf32 rfl (v := .agg #[.int .i64 (0), .string (bs ([])), .slice (none) (0) (0), .slice (none) (0) (0)]) rfl rfl (by simp [one]) rfl (Nat.le_of_ble_eq_true rfl) rfl ?_
 clear hF; rintro w hF -
 replace hF : FR w0 [] [(b2, .cells #[.int .i64 (0), .string (bs ([])), .slice (none) (0) (0), .slice (none) (0) (0)] 32), (b1, .cells #[.int .i64 (k), .string (bs (t)), .slice (A) (ks.length) (c), .slice (B) (xs.length) (e)] 32)] w := hF
 refine o_val (x_assign rfl) (o_nil (e_seq ?_))
 refine c_ret (e_ret (post_ret (res_ct rfl (l := [.int .i64 (0), .string (bs ([])), .slice (none) (0) (0), .slice (none) (0) (0)]) rfl Tryz.isAgg32 Tryz.sizeOf32 rfl (hF.cellsAll 0 rfl) (v := .bool false) rfl) ?_))
 rw [item_none (by rw [List.take_of_length_le (by omega)] at hno; exact hno)]
 exact ⟨_, rfl, zero_rep _ _, hF.same⟩
theorem rkeyItem_c (x : Tree) (key id : Str) (hsz : sizeT x ≤ 1000000000) (hm : maxL x ≤ 16777216) (hky : keysT x ≤ 8796093022208) (S : Nat → Prop) (w0 : World) (cs : List Value) (hR : Rep S w0 (treeD x) cs) : Calls Tryz.prog 16 #[.agg cs.toArray, .string (bs key), .string (bs id)] w0 (Ret fun v w' => ∃ ct : List Value, v = .tuple #[.agg ct.toArray, .bool (itemV x key id).2] ∧ Rep (Btw w0 w') w' (treeD (itemV x key id).1) ct ∧ Same [] w0 w') := by
  obtain ⟨k, t, ks, xs⟩ := x
  have hR0 := hR
  obtain ⟨A, c, B, e, rfl, -, -, -, hX⟩ := hR0.tree_inv
  have h3 := sizeTs_len xs
  have h4 : sizeT (.node k t ks xs) = 1 + sizeTs xs := by rw [sizeT]
  exact ritem_node k t ks xs key id A c B e S w0 hsz hm hky hR hX (by omega)
end Go.Scarf
