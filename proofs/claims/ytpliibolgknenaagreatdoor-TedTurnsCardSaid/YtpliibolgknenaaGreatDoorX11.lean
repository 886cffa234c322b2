/- A part of the proof. -/
import Derived.Test.YtpliibolgknenaaGreatDoorX9
import Derived.Test.YtpliibolgknenaaGreatDoorV2
set_option linter.all false
namespace Go.Scarf
open Go.RowKit Go.Proofs
theorem strs_news {S : Nat → Prop} {w : World} {l : List Str} {A : Option Addr} {n c : Nat} (h : Rep S w (strsD l) [.slice A n c]) : n ≠ 0 → ∃ a, A = some a ∧ ∀ j u, (SVs l)[j]? = some u → w.cell? (a.add j) = some u := fun hn => by
  have hl := h.slice_len.1
  rw [List.length_map] at hl
  obtain ⟨a, hA, -⟩ := h.str_elem (i := 0) (by omega)
  refine ⟨a, hA, fun j u hu => ?_⟩
  have hj : j < l.length := by
    have := (List.getElem?_eq_some_iff.1 hu).1
    simpa [SVs] using this
  have := str_at h hA hj
  rw [Nat.mul_one] at this
  rw [this]
  simp [SVs, hj] at hu
  rw [← hu]
theorem SVs_split (l : List Str) (k : Nat) (h : k < l.length) : SVs l = SVs (l.take k) ++ ([Value.string (bs l[k])] ++ SVs (l.drop (k + 1))) := by
  unfold SVs
  conv => lhs; rw [← List.take_append_drop k l, List.map_append, List.drop_eq_getElem_cons h, List.map_cons]
  rfl
theorem SVs_set (l : List Str) (k : Nat) (s : Str) (h : k < l.length) : SVs (l.take k) ++ ([Value.string (bs s)] ++ SVs (l.drop (k + 1))) = SVs (l.set k s) := by
  unfold SVs
  rw [List.set_eq_take_append_cons_drop, if_pos h, List.map_append, List.map_cons]
  rfl
theorem row_labT (y : Tree) : labT (inRow y) = labT y ++ [[91]] ∧ lefT (inRow y) 0 = lefT y 0 ++ [0] := by
  constructor
  · rw [inRow, labT, if_pos rfl, labTs, labTs, List.append_nil]
  · rw [inRow, lefT, if_pos rfl, lefTs, lefTs, List.append_nil]; rfl
theorem row_tree {x : Tree} (h : rightB (inRow x) = true) (hx : rightB x = true) : treeL (inRow x) = treeL x ++ [[91]] ∧ treeF (inRow x) = treeF x ++ [0] := by
  have e1 : sortedV (inRow x) = inRow (sortedV x) := by
    rw [sorted_open (right_open h), sorted_open (right_open hx), inRow, sortT, if_neg (by decide), sortTs, sortTs]
  unfold treeL treeF
  rw [e1]
  exact row_labT _
theorem bet_row {x y : Tree} (hx : rightB x = true) (hy : rightB y = true) (h1 : sizeT x ≤ 200) (h2 : sizeT y ≤ 200) (he : betE (inRow x) (inRow y) = 0) : betN (inRow x) (inRow y) = betN x y := by
  have hr : (rightB (inRow x) && rightB (inRow y)) = true := by
    unfold betE at he
    split at he
    · assumption
    · omega
  have hr2 := hr
  rw [Bool.and_eq_true] at hr2
  have s1 := inRow_size x
  have s2 := inRow_size y
  have t1 := tree_right hr2.1 (by omega)
  have t2 := tree_right hr2.2 (by omega)
  obtain ⟨a1, a2⟩ := row_tree hr2.1 hx
  obtain ⟨b1, b2⟩ := row_tree hr2.2 hy
  rw [betN, if_pos hr, betN, if_pos (by rw [hx, hy]; rfl)]
  rw [a1, a2] at t1 ⊢
  rw [b1, b2] at t2 ⊢
  rw [cost_row (treeF_len x).symm (treeF_len y).symm t1 t2]
theorem bet_in {x : Tree} (hx : rightB x = true) (h1 : sizeT x ≤ 200) (he : betE x (inRow x) = 0) : betN x (inRow x) = 1 := by
  have hr : (rightB x && rightB (inRow x)) = true := by
    unfold betE at he
    split at he
    · assumption
    · omega
  have hr2 := hr
  rw [Bool.and_eq_true] at hr2
  obtain ⟨a1, a2⟩ := row_tree hr2.2 hx
  rw [betN, if_pos hr, a1, a2, cost_in (treeF_len x).symm (tree_right hx (by omega))]
  rfl
theorem betE_right {x y : Tree} (h : ¬ betE x y ≠ 0) : rightB x = true ∧ rightB y = true := by
  unfold betE at h
  split at h
  · rename_i hh; simpa using hh
  · exact absurd (by decide) h
set_option maxHeartbeats 4000000 in
set_option maxRecDepth 10000 in
theorem tedTurns_w (w0 : World) (hG : Gl w0) (l0 : List Str) (f0 : List Int) (A0 : Option Addr) (c0 : Nat) (B0 : Option Addr) (e0 : Nat) (r0 : Rep (fun _ => True) w0 (strsD l0) [.slice A0 l0.length c0]) (q0 : Rep (fun _ => True) w0 (.slice (f0.map intD)) [.slice B0 f0.length e0]) (n : Int) (hn1 : -9223372036854775808 ≤ n) (hn2 : n ≤ 9223372036854775807) (lab : Str) (hlab : lab.length ≤ 9223372036854775807) (x : Tree) (cx : List Value) (rx : Rep (fun _ => True) w0 (treeD x) cx) (y : Tree) (cy : List Value) (ry : Rep (fun _ => True) w0 (treeD y) cy) : Calls Tryz.prog 5 #[.agg #[.slice A0 l0.length c0, .slice B0 f0.length e0], .int .i64 n, .string (bs lab), .agg cx.toArray, .agg cy.toArray] w0 (Ret fun v w' => v = .bool true ∧ Same [] w0 w') := by
  have hl0 := r0.slice_len
  have hf0 := q0.slice_len
  rw [List.length_map] at hf0
  have hlcx : cx.length = 4 := rx.length.trans (size_treeD x)
  have hocx := rx.one_
  have hlcy : cy.length = 4 := ry.length.trans (size_treeD y)
  have hocy := ry.one_
  refine calls_start Tryz.func5 rfl Tryz.ntmps5 (Nat.le_of_ble_eq_true rfl) (args_5 _ _ _ _ _) ?_
  have hF := FR.start w0 []
  refine c_seq ?_
  refine c_region ?_
  refine o_box (v := .agg #[.slice (A0) (l0.length) (c0), .slice (B0) (f0.length) (e0)]) (cs := #[.slice (A0) (l0.length) (c0), .slice (B0) (f0.length) (e0)]) hF rfl rfl ?_
  clear hF; intro b1 w hb1 hF hE
  clear hE
  refine o_box (v := .agg (List.toArray cx)) (cs := (List.toArray cx)) hF rfl rfl ?_
  clear hF; intro b2 w hb2 hF hE
  clear hE
  refine o_box (v := .agg (List.toArray cy)) (cs := (List.toArray cy)) hF rfl rfl ?_
  clear hF; intro b3 w hb3 hF hE
  clear hE
  refine o_val (v := .bool false) (x_assign rfl) ?_
  refine o_nil ?_
  refine e_seq ?_
  refine c_seq ?_
  refine c_region ?_
  refine o_call (small16_c _ (hG.ext hF.same)) (x_call0 en_8 rfl) ?_
  rintro _ w ⟨rfl, hE⟩
  replace hF := hF.ext hE
  clear hE
  refine o_val (v := .bool true) (x_assign rfl) ?_
  refine o_nil ?_
  refine e_seq ?_
  refine c_seq ?_
  refine c_region ?_
  refine o_val (v := .agg #[.slice (A0) (l0.length) (c0), .slice (B0) (f0.length) (e0)]) (x_loadS (l := [.slice (A0) (l0.length) (c0), .slice (B0) (f0.length) (e0)]) Tryz.isAgg30 Tryz.sizeOf30 rfl rfl (hF.cellsAll 2 rfl)) ?_
  refine o_call (fewN_c _ _ l0 f0 A0 B0 c0 e0 (hF.rep r0) (hF.rep q0) 40) (x_call2 en_13 rfl rfl rfl) ?_
  rintro _ w ⟨rfl, hE⟩
  replace hF := hF.ext hE
  clear hE
  refine o_val (v := .bool (fewN l0 f0 40)) (x_move rfl) ?_
  refine o_split (d := 25) (b := fewN l0 f0 40) rfl (fun hg0 => ?_) (fun hg0 => ?_)
  ·
    refine o_val (v := .agg (List.toArray cx)) (x_loadS (l := cx) Tryz.isAgg25 Tryz.sizeOf25 rfl hlcx (hF.cellsAll 1 rfl)) ?_
    refine o_call (few_v x 40 (by omega) (by omega) _ _ cx (hF.rep rx)) (x_call2 en_9 rfl rfl rfl) ?_
    rintro _ w ⟨rfl, hE⟩
    replace hF := hF.ext hE
    clear hE
    refine o_val (v := .bool (fewB x 40)) (x_pickt rfl rfl) ?_
    refine o_val (v := .bool (fewB x 40)) (x_move rfl) ?_
    refine o_split (d := 29) (b := fewB x 40) rfl (fun hg1 => ?_) (fun hg1 => ?_)
    ·
      refine o_val (v := .agg (List.toArray cy)) (x_loadS (l := cy) Tryz.isAgg25 Tryz.sizeOf25 rfl hlcy (hF.cellsAll 0 rfl)) ?_
      refine o_call (few_v y 40 (by omega) (by omega) _ _ cy (hF.rep ry)) (x_call2 en_9 rfl rfl rfl) ?_
      rintro _ w ⟨rfl, hE⟩
      replace hF := hF.ext hE
      clear hE
      refine o_val (v := .bool (fewB y 40)) (x_pickt rfl rfl) ?_
      refine o_val (v := .bool (fewB y 40)) (x_assign rfl) ?_
      refine o_nil ?_
      refine e_seq ?_
      refine c_seq ?_
      refine c_seq ?_
      refine c_region ?_
      refine o_val (v := .bool (fewB y 40)) (x_move rfl) ?_
      refine o_val (v := .bool (!(fewB y 40))) (x_not rfl) ?_
      refine o_val (v := .bool (!(fewB y 40))) (x_move rfl) ?_
      refine o_split (d := 35) (b := !(fewB y 40)) rfl (fun hg2 => ?_) (fun hg2 => ?_)
      ·
        refine o_off ?_
        refine o_off ?_
        refine o_off ?_
        refine o_val (v := .bool true) (x_pickt rfl rfl) ?_
        refine o_nil ?_
        refine e_seq ?_
        refine c_ift rfl ?_
        refine c_seq ?_
        refine c_region ?_
        refine o_val (v := .bool true) (x_move rfl) ?_
        refine o_val (v := .bool true) (x_assign rfl) ?_
        refine o_nil ?_
        refine e_seq ?_
        refine c_ret (e_ret (post_ret (res_1 (v := .bool true) rfl rfl) ?_))
        exact ⟨rfl, hF.same⟩
      ·
        refine o_val (v := .string (bs (lab))) (x_move rfl) ?_
        refine o_val (v := .int .i64 ((((lab) : Str).length : Int))) (x_len_string Tryz.underlying9 rfl) ?_
        refine o_val (v := .bool (decide ((1024 : Int) < ((((lab) : Str).length : Int) : Int)))) (x_gtr rfl rfl) ?_
        refine o_val (v := .bool (decide ((1024 : Int) < ((((lab) : Str).length : Int) : Int)))) (x_pickf rfl rfl) ?_
        refine o_nil ?_
        refine e_seq ?_
        refine c_splitd (d := 39) (p := (1024 : Int) < ((((lab) : Str).length : Int) : Int)) rfl (fun hc0 => ?_) (fun hc0 => ?_)
        ·
          refine c_ift rfl ?_
          refine c_seq ?_
          refine c_region ?_
          refine o_val (v := .bool true) (x_move rfl) ?_
          refine o_val (v := .bool true) (x_assign rfl) ?_
          refine o_nil ?_
          refine e_seq ?_
          refine c_ret (e_ret (post_ret (res_1 (v := .bool true) rfl rfl) ?_))
          exact ⟨rfl, hF.same⟩
        ·
          refine c_iff rfl ?_
          refine c_skip ?_
          refine e_seq ?_
          have kx_ : fewB x 40 = true := by first | assumption | exact nb_right (by assumption)
          have ky_ : fewB y 40 = true := by first | assumption | exact nb_right (by assumption)
          obtain ⟨sx, dx, tx⟩ := fewB_ok (by omega) kx_
          obtain ⟨sy, dy, ty⟩ := fewB_ok (by omega) ky_
          have mx := short_max x tx
          have my := short_max y ty
          have kf := fewN_ok (ls := l0) (fs := f0) (m := 40) (by first | assumption | exact nb_right (by assumption))
          have mrx : maxL (inRow x) ≤ 2048 := by simp only [inRow, maxL, maxLs, maxKs]; simp; omega
          have mry : maxL (inRow y) ≤ 2048 := by simp only [inRow, maxL, maxLs, maxKs]; simp; omega
          have srx := inRow_size x
          have sry := inRow_size y
          refine c_seq ?_
          refine c_join (fun σ w => AllEq σ [(8, .pointer (some ⟨b2, 0, none⟩)), (9, .pointer (some ⟨b3, 0, none⟩)), (11, .bool true)] ∧ FR w0 [] [(b3, .cells (List.toArray cy) 25), (b2, .cells (List.toArray cx) 25), (b1, .cells #[.slice (A0) (l0.length) (c0), .slice (B0) (f0.length) (e0)] 30)] w) ?_ ?_
          ·
            refine c_seq ?_
            refine c_region ?_
            refine o_val (v := .agg #[.slice (A0) (l0.length) (c0), .slice (B0) (f0.length) (e0)]) (x_loadS (l := [.slice (A0) (l0.length) (c0), .slice (B0) (f0.length) (e0)]) Tryz.isAgg30 Tryz.sizeOf30 rfl rfl (hF.cellsAll 2 rfl)) ?_
            refine o_call (rightT_c _ _ l0 f0 A0 B0 c0 e0 (hF.rep r0) (hF.rep q0)) (x_call1 en_14 rfl rfl) ?_
            rintro _ w ⟨ra0, rfl, hra0, hE⟩
            replace hF := hF.ext hE
            clear hE
            refine o_val (v := .bool (ra0)) (x_move rfl) ?_
            refine o_split (d := 43) (b := ra0) rfl (fun hg3 => ?_) (fun hg3 => ?_)
            ·
              refine o_val (v := .int .i64 (n)) (x_move rfl) ?_
              refine o_val (v := .bool (decide ((0 : Int) ≤ (n : Int)))) (x_geq rfl rfl) ?_
              refine o_val (v := .bool (decide ((0 : Int) ≤ (n : Int)))) (x_pickt rfl rfl) ?_
              refine o_val (v := .bool (decide ((0 : Int) ≤ (n : Int)))) (x_move rfl) ?_
              refine o_splitd (d := 47) (p := (0 : Int) ≤ (n : Int)) rfl (fun hg4 => ?_) (fun hg4 => ?_)
              ·
                refine o_val (v := .int .i64 (n)) (x_move rfl) ?_
                refine o_val (v := .pointer (some ⟨b1, 0, none⟩)) (x_fieldAddrO fa_30_0 rfl) ?_
                refine o_val (v := .slice (A0) (l0.length) (c0)) (x_load Tryz.isAgg22 rfl (hF.cell 2 rfl rfl)) ?_
                refine o_val (v := .int .i64 ((l0.length : Nat))) (x_len_slice Tryz.underlying22 rfl) ?_
                refine o_val (v := .bool (decide ((n : Int) < ((l0.length : Nat) : Int)))) (x_lss rfl rfl) ?_
                refine o_val (v := .bool (decide ((n : Int) < ((l0.length : Nat) : Int)))) (x_pickt rfl rfl) ?_
                refine o_nil ?_
                refine e_seq ?_
                refine c_splitd (d := 53) (p := (n : Int) < ((l0.length : Nat) : Int)) rfl (fun hc1 => ?_) (fun hc1 => ?_)
                ·
                  refine c_ift rfl ?_
                  refine c_seq ?_
                  obtain ⟨k, rfl⟩ : ∃ k : Nat, n = (k : Int) := ⟨n.toNat, by omega⟩
                  have hR0 : RightT l0 f0 := hra0.1 (by assumption)
                  replace hF : FR w0 [] ([(b3, .cells (List.toArray cy) 25), (b2, .cells (List.toArray cx) 25), (b1, .cells #[.slice (A0) (l0.length) (c0), .slice (B0) (f0.length) (e0)] 30)] ++ ([] ++ [])) w := hF
                  refine c_drawF [8] (.free 1 (.free 2 (.free 4 (.free 5 (.alt 0 (.alt 3 (.free 6 (.act 7 (.act 8 .nil))) (.act 7 (.act 3 (.free 6 (.act 8 .nil))))) (.act 7 (.act 0 (.act 3 (.free 6 (.act 8 .nil)))))))))) (by kernel_rfl) hF (by kernel_rfl) (by kernel_rfl) ?_
                  clear hF; intro w hF hE
                  clear hE
                  refine ⟨fun wq => FR w0 [] [(b3, .cells (List.toArray cy) 25), (b2, .cells (List.toArray cx) 25), (b1, .cells #[.slice (A0) (l0.length) (c0), .slice (B0) (f0.length) (e0)] 30)] wq, hF, ?_⟩
                  refine f_free rfl (v := .pointer (some ⟨b1, 0, none⟩)) (fun w hC => x_fieldAddrO fa_30_0 rfl) ?_
                  refine f_free rfl (v := .slice (A0) (l0.length) (c0)) (fun w hC => x_load Tryz.isAgg22 rfl (hC.cell 2 rfl rfl)) ?_
                  refine f_free rfl (v := .pointer (some ⟨b1, 1, none⟩)) (fun w hC => x_fieldAddrO fa_30_1 rfl) ?_
                  refine f_free rfl (v := .slice (B0) (f0.length) (e0)) (fun w hC => x_load Tryz.isAgg28 rfl (hC.cell 2 rfl rfl)) ?_
                  refine d_alt ?_ ?_
                  ·
                    refine f_new rfl (v := fun b => .slice (some ⟨b, 0, none⟩) 0 0) hF (x_buildSlice0 Tryz.underlying22 Tryz.sizeOf9) ?_
                    clear hF; intro b4 w hb4 hF hE
                    clear hE
                    refine ⟨hF.sub (.cons _ (.cons_cons _ (.cons_cons _ (.cons_cons _ (List.nil_sublist _))))), ?_⟩
                    refine d_alt ?_ ?_
                    ·
                      refine f_append [(b4, .cells #[] 9), (b3, .cells (List.toArray cy) 25), (b2, .cells (List.toArray cx) 25), (b1, .cells #[.slice (A0) (l0.length) (c0), .slice (B0) (f0.length) (e0)] 30)] [] (news := SVs l0) (len' := l0.length) (ys := SVs l0) rfl el_22 hF (SlB.zero _ _ _) rfl rfl (by simp [SVs]) (strs_news (hF.rep r0)) (by simp [SVs, Value.oneCell']) (by simp only [maxLen]; omega) (by simp) (by simp) (by omega) ?_
                      clear hF; intro A5 c5 o_5 w hS5_o hF hE hnew
                      clear hE hnew
                      refine ⟨hF.sub (.cons _ (.cons_cons _ (.cons_cons _ (.cons_cons _ (List.nil_sublist _))))), ?_⟩
                      refine f_free rfl (v := .agg #[.slice (A5) (l0.length) (c5), .slice (B0) (f0.length) (e0)]) (fun w hC => by kernel_rfl) ?_
                      refine f_new rfl (v := fun b => .pointer (some ⟨b, 0, none⟩)) (o := .cells #[.slice (none) (0) (0), .slice (none) (0) (0)] 30) hF (x_alloc Tryz.zeroValue30) ?_
                      clear hF; intro b5 w hb5 hF hE
                      clear hE
                      refine ⟨hF.sub (.cons _ (.cons _ (.cons_cons _ (.cons_cons _ (.cons_cons _ (List.nil_sublist _)))))), ?_⟩
                      refine f_storez rfl 0 (l := [.slice (A5) (l0.length) (c5), .slice (B0) (f0.length) (e0)]) (cs' := #[.slice (A5) (l0.length) (c5), .slice (B0) (f0.length) (e0)]) hF Tryz.sizeOf30 rfl (v := .agg #[.slice (A5) (l0.length) (c5), .slice (B0) (f0.length) (e0)]) rfl rfl (by simp [one]) rfl (Nat.le_of_ble_eq_true rfl) rfl ?_
                      clear hF; intro w hF hE
                      clear hE
                      replace hF : FR w0 [] ([(b5, .cells #[.slice (A5) (l0.length) (c5), .slice (B0) (f0.length) (e0)] 30), (b4, .cells #[] 9), (b3, .cells (List.toArray cy) 25), (b2, .cells (List.toArray cx) 25), (b1, .cells #[.slice (A0) (l0.length) (c0), .slice (B0) (f0.length) (e0)] 30)] ++ (o_5 ++ [])) w := hF
                      refine d_nil ?_
                      refine e_seq ?_
                      refine c_seq ?_
                      rw [SVs_split l0 k (by omega)] at hS5_o
                      refine c_region ?_
                      refine o_val (v := .pointer (some ⟨b5, 0, none⟩)) (x_fieldAddrO fa_30_0 rfl) ?_
                      refine o_val (v := .slice (A5) (l0.length) (c5)) (x_load Tryz.isAgg22 rfl (hF.cell 0 rfl rfl)) ?_
                      refine o_val (v := .int .i64 ((k : Int))) (x_move rfl) ?_
                      refine o_val (v := .string (bs (lab))) (x_move rfl) ?_
                      obtain ⟨ad6, hA6, hk6⟩ := hS5_o.elemMid (pre := [(b5, .cells #[.slice (A5) (l0.length) (c5), .slice (B0) (f0.length) (e0)] 30), (b4, .cells #[] 9), (b3, .cells (List.toArray cy) 25), (b2, .cells (List.toArray cx) 25), (b1, .cells #[.slice (A0) (l0.length) (c0), .slice (B0) (f0.length) (e0)] 30)]) (post := []) (pr := SVs (l0.take k)) (mid := [Value.string (bs (l0[k]))]) (po := SVs (l0.drop (k + 1))) hF (j := k) (by simp [SVs]; omega) rfl (by omega)
                      refine o_val (v := .pointer (some (ad6.add (k * 1)))) (x_indexAddrA (i := (k : Int)) sl_22 rfl hA6 rfl (by omega) (by omega)) ?_
                      refine o_storeSl [(b5, .cells #[.slice (A5) (l0.length) (c5), .slice (B0) (f0.length) (e0)] 30), (b4, .cells #[] 9), (b3, .cells (List.toArray cy) 25), (b2, .cells (List.toArray cx) 25), (b1, .cells #[.slice (A0) (l0.length) (c0), .slice (B0) (f0.length) (e0)] 30)] [] hF (pr := SVs (l0.take k)) (mid := [Value.string (bs (l0[k]))]) (po := SVs (l0.drop (k + 1))) (new := [.string (bs (lab))]) (j := k) hS5_o (by simp [SVs]; omega) rfl hA6 (by omega) Tryz.sizeOf9 rfl (v := .string (bs (lab))) rfl rfl rfl (by simp [one]) ?_
                      clear hF; intro o_7 w hS7_o hF hE hids
                      clear hE
                      refine o_nil ?_
                      refine e_seq ?_
                      refine c_seq ?_
                      refine c_region ?_
                      refine o_val (v := .agg #[.slice (A0) (l0.length) (c0), .slice (B0) (f0.length) (e0)]) (x_loadS (l := [.slice (A0) (l0.length) (c0), .slice (B0) (f0.length) (e0)]) Tryz.isAgg30 Tryz.sizeOf30 rfl rfl (hF.cellsAll 4 rfl)) ?_
                      refine o_val (v := .agg #[.slice (A5) (l0.length) (c5), .slice (B0) (f0.length) (e0)]) (x_loadS (l := [.slice (A5) (l0.length) (c5), .slice (B0) (f0.length) (e0)]) Tryz.isAgg30 Tryz.sizeOf30 rfl rfl (hF.cellsAll 0 rfl)) ?_
                      have hS9 := hS7_o
                      rw [SVs_set l0 k lab (by omega)] at hS9
                      have hls : Rep (fun _ => True) w (strsD (l0.set k lab)) [.slice A5 (l0.set k lab).length c5] := by rw [List.length_set]; exact (hS9.rep (pre := [(b5, .cells #[.slice (A5) (l0.length) (c5), .slice (B0) (f0.length) (e0)] 30), (b4, .cells #[] 9), (b3, .cells (List.toArray cy) 25), (b2, .cells (List.toArray cx) 25), (b1, .cells #[.slice (A0) (l0.length) (c0), .slice (B0) (f0.length) (e0)] 30)]) (post := []) hF (show RX w0 [] w ((l0.set k lab).map strD) _ from strs_lits (fun s hs => by rcases List.mem_or_eq_of_mem_set hs with h | h; (have := kf.1 s h; omega); (subst h; omega))) (by simp)).weaken fun _ _ _ => trivial
                      have hR1 : RightT (l0.set k lab) f0 := by rw [RightT, List.length_set]; exact hR0
                      have hcl := cost_label hR0 (k := k) (by omega) lab
                      have hct := cost_yes _ (fun _ => True) _ l0 f0 A0 B0 c0 e0 (hF.rep r0) (hF.rep q0) (l0.set k lab) f0 A5 B0 c5 e0 hls (hF.rep q0) hR0 hR1
                      simp only [List.length_set] at hct
                      refine o_call (hct) (x_call2 en_15 rfl rfl rfl) ?_
                      rintro _ w ⟨rfl, hE⟩
                      replace hF := hF.ext hE
                      clear hE
                      refine o_val (v := .tuple #[.int .i64 ((costT l0 f0 (l0.set k lab) f0 : Nat)), .int .i64 (0)]) (x_move rfl) ?_
                      refine o_val (v := .int .i64 ((costT l0 f0 (l0.set k lab) f0 : Nat))) (x_extract rfl rfl) ?_
                      refine o_val (v := .int .i64 (0)) (x_extract rfl rfl) ?_
                      refine o_val (v := .int .i64 ((costT l0 f0 (l0.set k lab) f0 : Nat))) (x_assign rfl) ?_
                      refine o_val (v := .int .i64 (0)) (x_assign rfl) ?_
                      refine o_nil ?_
                      refine e_seq ?_
                      refine c_seq ?_
                      refine c_region ?_
                      refine o_val (v := .int .i64 (0)) (x_move rfl) ?_
                      refine o_val (v := .bool false) (run_false (x_neq rfl rfl) (by decide)) ?_
                      refine o_val (v := .bool false) (x_move rfl) ?_
                      refine o_val (v := .int .i64 ((costT l0 f0 (l0.set k lab) f0 : Nat))) (x_move rfl) ?_
                      refine o_val (v := .bool false) (run_false (x_gtr rfl rfl) (by omega)) ?_
                      refine o_val (v := .bool false) (x_pickf rfl rfl) ?_
                      refine o_val (v := .bool false) (x_move rfl) ?_
                      refine o_val (v := .int .i64 ((costT l0 f0 (l0.set k lab) f0 : Nat))) (x_move rfl) ?_
                      refine o_val (v := .bool (decide (((costT l0 f0 (l0.set k lab) f0 : Nat) : Int) = (0 : Int)))) (x_eql rfl rfl) ?_
                      refine o_val (v := .string (bs (lab))) (x_move rfl) ?_
                      refine o_val (v := .pointer (some ⟨b1, 0, none⟩)) (x_fieldAddrO fa_30_0 rfl) ?_
                      refine o_val (v := .slice (A0) (l0.length) (c0)) (x_load Tryz.isAgg22 rfl (hF.cell 4 rfl rfl)) ?_
                      refine o_val (v := .int .i64 ((k : Int))) (x_move rfl) ?_
                      obtain ⟨ad8, hA8, hk8, hx8⟩ := r0.str_elem (i := k) (by omega)
                      refine o_val (v := .pointer (some (ad8.add (k * 1)))) (x_indexAddrA (i := (k : Int)) sl_22 rfl hA8 rfl (by omega) (by omega)) ?_
                      refine o_val (v := .string (bs (l0[k]))) (x_load Tryz.isAgg9 rfl (hF.cell0 hk8)) ?_
                      refine o_val (v := .bool (decide ((lab : Str) = l0[k]))) (x_eqls rfl rfl) ?_
                      refine o_val (v := .bool false) (run_bool (x_neqb Tryz.underlying4 rfl rfl) (by rw [bne_eq_false_iff_eq]; exact decide_eq_decide.2 ⟨fun h => hcl.2.1 (by omega), fun h => by have := hcl.2.2 h; omega⟩)) ?_
                      refine o_val (v := .bool false) (x_pickf rfl rfl) ?_
                      refine o_nil ?_
                      refine e_seq ?_
                      refine c_iff rfl ?_
                      refine c_skip ?_
                      replace hF := hF.noseg
                      exact e_inv ⟨⟨rfl, rfl, rfl, trivial⟩, (((((hF.front 4 rfl).front 4 rfl).front 4 rfl).erase 3).erase 3)⟩
                    ·
                      refine f_new rfl (v := fun b => .pointer (some ⟨b, 0, none⟩)) (o := .cells #[.slice (none) (0) (0), .slice (none) (0) (0)] 30) hF (x_alloc Tryz.zeroValue30) ?_
                      clear hF; intro b6 w hb6 hF hE
                      clear hE
                      refine ⟨hF.sub (.cons _ (.cons _ (.cons_cons _ (.cons_cons _ (.cons_cons _ (List.nil_sublist _)))))), ?_⟩
                      refine f_append [(b6, .cells #[.slice (none) (0) (0), .slice (none) (0) (0)] 30), (b4, .cells #[] 9), (b3, .cells (List.toArray cy) 25), (b2, .cells (List.toArray cx) 25), (b1, .cells #[.slice (A0) (l0.length) (c0), .slice (B0) (f0.length) (e0)] 30)] [] (news := SVs l0) (len' := l0.length) (ys := SVs l0) rfl el_22 hF (SlB.zero _ _ _) rfl rfl (by simp [SVs]) (strs_news (hF.rep r0)) (by simp [SVs, Value.oneCell']) (by simp only [maxLen]; omega) (by simp) (by simp) (by omega) ?_
                      clear hF; intro A9 c9 o_9 w hS9_o hF hE hnew
                      clear hE hnew
                      refine ⟨hF.sub (.cons _ (.cons _ (.cons_cons _ (.cons_cons _ (.cons_cons _ (List.nil_sublist _)))))), ?_⟩
                      refine f_free rfl (v := .agg #[.slice (A9) (l0.length) (c9), .slice (B0) (f0.length) (e0)]) (fun w hC => by kernel_rfl) ?_
                      refine f_storez rfl 0 (l := [.slice (A9) (l0.length) (c9), .slice (B0) (f0.length) (e0)]) (cs' := #[.slice (A9) (l0.length) (c9), .slice (B0) (f0.length) (e0)]) hF Tryz.sizeOf30 rfl (v := .agg #[.slice (A9) (l0.length) (c9), .slice (B0) (f0.length) (e0)]) rfl rfl (by simp [one]) rfl (Nat.le_of_ble_eq_true rfl) rfl ?_
                      clear hF; intro w hF hE
                      clear hE
                      replace hF : FR w0 [] ([(b6, .cells #[.slice (A9) (l0.length) (c9), .slice (B0) (f0.length) (e0)] 30), (b4, .cells #[] 9), (b3, .cells (List.toArray cy) 25), (b2, .cells (List.toArray cx) 25), (b1, .cells #[.slice (A0) (l0.length) (c0), .slice (B0) (f0.length) (e0)] 30)] ++ (o_9 ++ [])) w := hF
                      refine d_nil ?_
                      refine e_seq ?_
                      refine c_seq ?_
                      rw [SVs_split l0 k (by omega)] at hS9_o
                      refine c_region ?_
                      refine o_val (v := .pointer (some ⟨b6, 0, none⟩)) (x_fieldAddrO fa_30_0 rfl) ?_
                      refine o_val (v := .slice (A9) (l0.length) (c9)) (x_load Tryz.isAgg22 rfl (hF.cell 0 rfl rfl)) ?_
                      refine o_val (v := .int .i64 ((k : Int))) (x_move rfl) ?_
                      refine o_val (v := .string (bs (lab))) (x_move rfl) ?_
                      obtain ⟨ad10, hA10, hk10⟩ := hS9_o.elemMid (pre := [(b6, .cells #[.slice (A9) (l0.length) (c9), .slice (B0) (f0.length) (e0)] 30), (b4, .cells #[] 9), (b3, .cells (List.toArray cy) 25), (b2, .cells (List.toArray cx) 25), (b1, .cells #[.slice (A0) (l0.length) (c0), .slice (B0) (f0.length) (e0)] 30)]) (post := []) (pr := SVs (l0.take k)) (mid := [Value.string (bs (l0[k]))]) (po := SVs (l0.drop (k + 1))) hF (j := k) (by simp [SVs]; omega) rfl (by omega)
                      refine o_val (v := .pointer (some (ad10.add (k * 1)))) (x_indexAddrA (i := (k : Int)) sl_22 rfl hA10 rfl (by omega) (by omega)) ?_
                      refine o_storeSl [(b6, .cells #[.slice (A9) (l0.length) (c9), .slice (B0) (f0.length) (e0)] 30), (b4, .cells #[] 9), (b3, .cells (List.toArray cy) 25), (b2, .cells (List.toArray cx) 25), (b1, .cells #[.slice (A0) (l0.length) (c0), .slice (B0) (f0.length) (e0)] 30)] [] hF (pr := SVs (l0.take k)) (mid := [Value.string (bs (l0[k]))]) (po := SVs (l0.drop (k + 1))) (new := [.string (bs (lab))]) (j := k) hS9_o (by simp [SVs]; omega) rfl hA10 (by omega) Tryz.sizeOf9 rfl (v := .string (bs (lab))) rfl rfl rfl (by simp [one]) ?_
                      clear hF; intro o_11 w hS11_o hF hE hids
                      clear hE
                      refine o_nil ?_
                      refine e_seq ?_
                      refine c_seq ?_
                      refine c_region ?_
                      refine o_val (v := .agg #[.slice (A0) (l0.length) (c0), .slice (B0) (f0.length) (e0)]) (x_loadS (l := [.slice (A0) (l0.length) (c0), .slice (B0) (f0.length) (e0)]) Tryz.isAgg30 Tryz.sizeOf30 rfl rfl (hF.cellsAll 4 rfl)) ?_
                      refine o_val (v := .agg #[.slice (A9) (l0.length) (c9), .slice (B0) (f0.length) (e0)]) (x_loadS (l := [.slice (A9) (l0.length) (c9), .slice (B0) (f0.length) (e0)]) Tryz.isAgg30 Tryz.sizeOf30 rfl rfl (hF.cellsAll 0 rfl)) ?_
                      have hS9 := hS11_o
                      rw [SVs_set l0 k lab (by omega)] at hS9
                      have hls : Rep (fun _ => True) w (strsD (l0.set k lab)) [.slice A9 (l0.set k lab).length c9] := by rw [List.length_set]; exact (hS9.rep (pre := [(b6, .cells #[.slice (A9) (l0.length) (c9), .slice (B0) (f0.length) (e0)] 30), (b4, .cells #[] 9), (b3, .cells (List.toArray cy) 25), (b2, .cells (List.toArray cx) 25), (b1, .cells #[.slice (A0) (l0.length) (c0), .slice (B0) (f0.length) (e0)] 30)]) (post := []) hF (show RX w0 [] w ((l0.set k lab).map strD) _ from strs_lits (fun s hs => by rcases List.mem_or_eq_of_mem_set hs with h | h; (have := kf.1 s h; omega); (subst h; omega))) (by simp)).weaken fun _ _ _ => trivial
                      have hR1 : RightT (l0.set k lab) f0 := by rw [RightT, List.length_set]; exact hR0
                      have hcl := cost_label hR0 (k := k) (by omega) lab
                      have hct := cost_yes _ (fun _ => True) _ l0 f0 A0 B0 c0 e0 (hF.rep r0) (hF.rep q0) (l0.set k lab) f0 A9 B0 c9 e0 hls (hF.rep q0) hR0 hR1
                      simp only [List.length_set] at hct
                      refine o_call (hct) (x_call2 en_15 rfl rfl rfl) ?_
                      rintro _ w ⟨rfl, hE⟩
                      replace hF := hF.ext hE
                      clear hE
                      refine o_val (v := .tuple #[.int .i64 ((costT l0 f0 (l0.set k lab) f0 : Nat)), .int .i64 (0)]) (x_move rfl) ?_
                      refine o_val (v := .int .i64 ((costT l0 f0 (l0.set k lab) f0 : Nat))) (x_extract rfl rfl) ?_
                      refine o_val (v := .int .i64 (0)) (x_extract rfl rfl) ?_
                      refine o_val (v := .int .i64 ((costT l0 f0 (l0.set k lab) f0 : Nat))) (x_assign rfl) ?_
                      refine o_val (v := .int .i64 (0)) (x_assign rfl) ?_
                      refine o_nil ?_
                      refine e_seq ?_
                      refine c_seq ?_
                      refine c_region ?_
                      refine o_val (v := .int .i64 (0)) (x_move rfl) ?_
                      refine o_val (v := .bool false) (run_false (x_neq rfl rfl) (by decide)) ?_
                      refine o_val (v := .bool false) (x_move rfl) ?_
                      refine o_val (v := .int .i64 ((costT l0 f0 (l0.set k lab) f0 : Nat))) (x_move rfl) ?_
                      refine o_val (v := .bool false) (run_false (x_gtr rfl rfl) (by omega)) ?_
                      refine o_val (v := .bool false) (x_pickf rfl rfl) ?_
                      refine o_val (v := .bool false) (x_move rfl) ?_
                      refine o_val (v := .int .i64 ((costT l0 f0 (l0.set k lab) f0 : Nat))) (x_move rfl) ?_
                      refine o_val (v := .bool (decide (((costT l0 f0 (l0.set k lab) f0 : Nat) : Int) = (0 : Int)))) (x_eql rfl rfl) ?_
                      refine o_val (v := .string (bs (lab))) (x_move rfl) ?_
                      refine o_val (v := .pointer (some ⟨b1, 0, none⟩)) (x_fieldAddrO fa_30_0 rfl) ?_
                      refine o_val (v := .slice (A0) (l0.length) (c0)) (x_load Tryz.isAgg22 rfl (hF.cell 4 rfl rfl)) ?_
                      refine o_val (v := .int .i64 ((k : Int))) (x_move rfl) ?_
                      obtain ⟨ad12, hA12, hk12, hx12⟩ := r0.str_elem (i := k) (by omega)
                      refine o_val (v := .pointer (some (ad12.add (k * 1)))) (x_indexAddrA (i := (k : Int)) sl_22 rfl hA12 rfl (by omega) (by omega)) ?_
                      refine o_val (v := .string (bs (l0[k]))) (x_load Tryz.isAgg9 rfl (hF.cell0 hk12)) ?_
                      refine o_val (v := .bool (decide ((lab : Str) = l0[k]))) (x_eqls rfl rfl) ?_
                      refine o_val (v := .bool false) (run_bool (x_neqb Tryz.underlying4 rfl rfl) (by rw [bne_eq_false_iff_eq]; exact decide_eq_decide.2 ⟨fun h => hcl.2.1 (by omega), fun h => by have := hcl.2.2 h; omega⟩)) ?_
                      refine o_val (v := .bool false) (x_pickf rfl rfl) ?_
                      refine o_nil ?_
                      refine e_seq ?_
                      refine c_iff rfl ?_
                      refine c_skip ?_
                      replace hF := hF.noseg
                      exact e_inv ⟨⟨rfl, rfl, rfl, trivial⟩, (((((hF.front 4 rfl).front 4 rfl).front 4 rfl).erase 3).erase 3)⟩
                  ·
                    refine f_new rfl (v := fun b => .pointer (some ⟨b, 0, none⟩)) (o := .cells #[.slice (none) (0) (0), .slice (none) (0) (0)] 30) hF (x_alloc Tryz.zeroValue30) ?_
                    clear hF; intro b7 w hb7 hF hE
                    clear hE
                    refine ⟨hF.sub (.cons _ (.cons_cons _ (.cons_cons _ (.cons_cons _ .slnil)))), ?_⟩
                    refine f_new rfl (v := fun b => .slice (some ⟨b, 0, none⟩) 0 0) hF (x_buildSlice0 Tryz.underlying22 Tryz.sizeOf9) ?_
                    clear hF; intro b8 w hb8 hF hE
                    clear hE
                    refine ⟨hF.sub (.cons _ (.cons _ (.cons_cons _ (.cons_cons _ (.cons_cons _ (List.nil_sublist _)))))), ?_⟩
                    refine f_append [(b8, .cells #[] 9), (b7, .cells #[.slice (none) (0) (0), .slice (none) (0) (0)] 30), (b3, .cells (List.toArray cy) 25), (b2, .cells (List.toArray cx) 25), (b1, .cells #[.slice (A0) (l0.length) (c0), .slice (B0) (f0.length) (e0)] 30)] [] (news := SVs l0) (len' := l0.length) (ys := SVs l0) rfl el_22 hF (SlB.zero _ _ _) rfl rfl (by simp [SVs]) (strs_news (hF.rep r0)) (by simp [SVs, Value.oneCell']) (by simp only [maxLen]; omega) (by simp) (by simp) (by omega) ?_
                    clear hF; intro A13 c13 o_13 w hS13_o hF hE hnew
                    clear hE hnew
                    refine ⟨hF.sub (.cons _ (.cons _ (.cons_cons _ (.cons_cons _ (.cons_cons _ (List.nil_sublist _)))))), ?_⟩
                    refine f_free rfl (v := .agg #[.slice (A13) (l0.length) (c13), .slice (B0) (f0.length) (e0)]) (fun w hC => by kernel_rfl) ?_
                    refine f_storez rfl 1 (l := [.slice (A13) (l0.length) (c13), .slice (B0) (f0.length) (e0)]) (cs' := #[.slice (A13) (l0.length) (c13), .slice (B0) (f0.length) (e0)]) hF Tryz.sizeOf30 rfl (v := .agg #[.slice (A13) (l0.length) (c13), .slice (B0) (f0.length) (e0)]) rfl rfl (by simp [one]) rfl (Nat.le_of_ble_eq_true rfl) rfl ?_
                    clear hF; intro w hF hE
                    clear hE
                    replace hF : FR w0 [] ([(b8, .cells #[] 9), (b7, .cells #[.slice (A13) (l0.length) (c13), .slice (B0) (f0.length) (e0)] 30), (b3, .cells (List.toArray cy) 25), (b2, .cells (List.toArray cx) 25), (b1, .cells #[.slice (A0) (l0.length) (c0), .slice (B0) (f0.length) (e0)] 30)] ++ (o_13 ++ [])) w := hF
                    refine d_nil ?_
                    refine e_seq ?_
                    refine c_seq ?_
                    rw [SVs_split l0 k (by omega)] at hS13_o
                    refine c_region ?_
                    refine o_val (v := .pointer (some ⟨b7, 0, none⟩)) (x_fieldAddrO fa_30_0 rfl) ?_
                    refine o_val (v := .slice (A13) (l0.length) (c13)) (x_load Tryz.isAgg22 rfl (hF.cell 1 rfl rfl)) ?_
                    refine o_val (v := .int .i64 ((k : Int))) (x_move rfl) ?_
                    refine o_val (v := .string (bs (lab))) (x_move rfl) ?_
                    obtain ⟨ad14, hA14, hk14⟩ := hS13_o.elemMid (pre := [(b8, .cells #[] 9), (b7, .cells #[.slice (A13) (l0.length) (c13), .slice (B0) (f0.length) (e0)] 30), (b3, .cells (List.toArray cy) 25), (b2, .cells (List.toArray cx) 25), (b1, .cells #[.slice (A0) (l0.length) (c0), .slice (B0) (f0.length) (e0)] 30)]) (post := []) (pr := SVs (l0.take k)) (mid := [Value.string (bs (l0[k]))]) (po := SVs (l0.drop (k + 1))) hF (j := k) (by simp [SVs]; omega) rfl (by omega)
                    refine o_val (v := .pointer (some (ad14.add (k * 1)))) (x_indexAddrA (i := (k : Int)) sl_22 rfl hA14 rfl (by omega) (by omega)) ?_
                    refine o_storeSl [(b8, .cells #[] 9), (b7, .cells #[.slice (A13) (l0.length) (c13), .slice (B0) (f0.length) (e0)] 30), (b3, .cells (List.toArray cy) 25), (b2, .cells (List.toArray cx) 25), (b1, .cells #[.slice (A0) (l0.length) (c0), .slice (B0) (f0.length) (e0)] 30)] [] hF (pr := SVs (l0.take k)) (mid := [Value.string (bs (l0[k]))]) (po := SVs (l0.drop (k + 1))) (new := [.string (bs (lab))]) (j := k) hS13_o (by simp [SVs]; omega) rfl hA14 (by omega) Tryz.sizeOf9 rfl (v := .string (bs (lab))) rfl rfl rfl (by simp [one]) ?_
                    clear hF; intro o_15 w hS15_o hF hE hids
                    clear hE
                    refine o_nil ?_
                    refine e_seq ?_
                    refine c_seq ?_
                    refine c_region ?_
                    refine o_val (v := .agg #[.slice (A0) (l0.length) (c0), .slice (B0) (f0.length) (e0)]) (x_loadS (l := [.slice (A0) (l0.length) (c0), .slice (B0) (f0.length) (e0)]) Tryz.isAgg30 Tryz.sizeOf30 rfl rfl (hF.cellsAll 4 rfl)) ?_
                    refine o_val (v := .agg #[.slice (A13) (l0.length) (c13), .slice (B0) (f0.length) (e0)]) (x_loadS (l := [.slice (A13) (l0.length) (c13), .slice (B0) (f0.length) (e0)]) Tryz.isAgg30 Tryz.sizeOf30 rfl rfl (hF.cellsAll 1 rfl)) ?_
                    have hS9 := hS15_o
                    rw [SVs_set l0 k lab (by omega)] at hS9
                    have hls : Rep (fun _ => True) w (strsD (l0.set k lab)) [.slice A13 (l0.set k lab).length c13] := by rw [List.length_set]; exact (hS9.rep (pre := [(b8, .cells #[] 9), (b7, .cells #[.slice (A13) (l0.length) (c13), .slice (B0) (f0.length) (e0)] 30), (b3, .cells (List.toArray cy) 25), (b2, .cells (List.toArray cx) 25), (b1, .cells #[.slice (A0) (l0.length) (c0), .slice (B0) (f0.length) (e0)] 30)]) (post := []) hF (show RX w0 [] w ((l0.set k lab).map strD) _ from strs_lits (fun s hs => by rcases List.mem_or_eq_of_mem_set hs with h | h; (have := kf.1 s h; omega); (subst h; omega))) (by simp)).weaken fun _ _ _ => trivial
                    have hR1 : RightT (l0.set k lab) f0 := by rw [RightT, List.length_set]; exact hR0
                    have hcl := cost_label hR0 (k := k) (by omega) lab
                    have hct := cost_yes _ (fun _ => True) _ l0 f0 A0 B0 c0 e0 (hF.rep r0) (hF.rep q0) (l0.set k lab) f0 A13 B0 c13 e0 hls (hF.rep q0) hR0 hR1
                    simp only [List.length_set] at hct
                    refine o_call (hct) (x_call2 en_15 rfl rfl rfl) ?_
                    rintro _ w ⟨rfl, hE⟩
                    replace hF := hF.ext hE
                    clear hE
                    refine o_val (v := .tuple #[.int .i64 ((costT l0 f0 (l0.set k lab) f0 : Nat)), .int .i64 (0)]) (x_move rfl) ?_
                    refine o_val (v := .int .i64 ((costT l0 f0 (l0.set k lab) f0 : Nat))) (x_extract rfl rfl) ?_
                    refine o_val (v := .int .i64 (0)) (x_extract rfl rfl) ?_
                    refine o_val (v := .int .i64 ((costT l0 f0 (l0.set k lab) f0 : Nat))) (x_assign rfl) ?_
                    refine o_val (v := .int .i64 (0)) (x_assign rfl) ?_
                    refine o_nil ?_
                    refine e_seq ?_
                    refine c_seq ?_
                    refine c_region ?_
                    refine o_val (v := .int .i64 (0)) (x_move rfl) ?_
                    refine o_val (v := .bool false) (run_false (x_neq rfl rfl) (by decide)) ?_
                    refine o_val (v := .bool false) (x_move rfl) ?_
                    refine o_val (v := .int .i64 ((costT l0 f0 (l0.set k lab) f0 : Nat))) (x_move rfl) ?_
                    refine o_val (v := .bool false) (run_false (x_gtr rfl rfl) (by omega)) ?_
                    refine o_val (v := .bool false) (x_pickf rfl rfl) ?_
                    refine o_val (v := .bool false) (x_move rfl) ?_
                    refine o_val (v := .int .i64 ((costT l0 f0 (l0.set k lab) f0 : Nat))) (x_move rfl) ?_
                    refine o_val (v := .bool (decide (((costT l0 f0 (l0.set k lab) f0 : Nat) : Int) = (0 : Int)))) (x_eql rfl rfl) ?_
                    refine o_val (v := .string (bs (lab))) (x_move rfl) ?_
                    refine o_val (v := .pointer (some ⟨b1, 0, none⟩)) (x_fieldAddrO fa_30_0 rfl) ?_
                    refine o_val (v := .slice (A0) (l0.length) (c0)) (x_load Tryz.isAgg22 rfl (hF.cell 4 rfl rfl)) ?_
                    refine o_val (v := .int .i64 ((k : Int))) (x_move rfl) ?_
                    obtain ⟨ad16, hA16, hk16, hx16⟩ := r0.str_elem (i := k) (by omega)
                    refine o_val (v := .pointer (some (ad16.add (k * 1)))) (x_indexAddrA (i := (k : Int)) sl_22 rfl hA16 rfl (by omega) (by omega)) ?_
                    refine o_val (v := .string (bs (l0[k]))) (x_load Tryz.isAgg9 rfl (hF.cell0 hk16)) ?_
                    refine o_val (v := .bool (decide ((lab : Str) = l0[k]))) (x_eqls rfl rfl) ?_
                    refine o_val (v := .bool false) (run_bool (x_neqb Tryz.underlying4 rfl rfl) (by rw [bne_eq_false_iff_eq]; exact decide_eq_decide.2 ⟨fun h => hcl.2.1 (by omega), fun h => by have := hcl.2.2 h; omega⟩)) ?_
                    refine o_val (v := .bool false) (x_pickf rfl rfl) ?_
                    refine o_nil ?_
                    refine e_seq ?_
                    refine c_iff rfl ?_
                    refine c_skip ?_
                    replace hF := hF.noseg
                    exact e_inv ⟨⟨rfl, rfl, rfl, trivial⟩, (((((hF.front 4 rfl).front 4 rfl).front 4 rfl).erase 3).erase 3)⟩
                ·
                  refine c_iff rfl ?_
                  refine c_skip ?_
                  exact e_inv ⟨⟨rfl, rfl, rfl, trivial⟩, (((hF.front 2 rfl).front 2 rfl).front 2 rfl)⟩
              ·
                refine o_off ?_
                refine o_off ?_
                refine o_off ?_
                refine o_off ?_
                refine o_off ?_
                refine o_val (v := .bool false) (x_pickf rfl rfl) ?_
                refine o_nil ?_
                refine e_seq ?_
                refine c_iff rfl ?_
                refine c_skip ?_
                exact e_inv ⟨⟨rfl, rfl, rfl, trivial⟩, (((hF.front 2 rfl).front 2 rfl).front 2 rfl)⟩
            ·
              refine o_off ?_
              refine o_off ?_
              refine o_val (v := .bool false) (x_pickf rfl rfl) ?_
              refine o_val (v := .bool false) (x_move rfl) ?_
              refine o_off ?_
              refine o_off ?_
              refine o_off ?_
              refine o_off ?_
              refine o_off ?_
              refine o_val (v := .bool false) (x_pickf rfl rfl) ?_
              refine o_nil ?_
              refine e_seq ?_
              refine c_iff rfl ?_
              refine c_skip ?_
              exact e_inv ⟨⟨rfl, rfl, rfl, trivial⟩, (((hF.front 2 rfl).front 2 rfl).front 2 rfl)⟩
          clear hF; rintro σ w ⟨hs, hF⟩
          refine Eg.slots hs ?_
          clear hs; intro σ
          refine e_seq ?_
          refine c_seq ?_
          refine c_region ?_
          refine o_val (v := .agg (List.toArray cx)) (x_loadS (l := cx) Tryz.isAgg25 Tryz.sizeOf25 rfl hlcx (hF.cellsAll 1 rfl)) ?_
          refine o_val (v := .agg (List.toArray cy)) (x_loadS (l := cy) Tryz.isAgg25 Tryz.sizeOf25 rfl hlcy (hF.cellsAll 0 rfl)) ?_
          refine o_call (between_c x y _ _ _ cx cy (hF.rep rx) (hF.rep ry) (hG.ext hF.same) (by omega) (by omega) (by omega) (by omega)) (x_call2 en_11 rfl rfl rfl) ?_
          rintro _ w ⟨rfl, hE⟩
          replace hF := hF.ext hE
          clear hE
          refine o_val (v := .tuple #[.int .i64 (betN x y), .int .i64 (betE x y)]) (x_move rfl) ?_
          refine o_val (v := .int .i64 (betN x y)) (x_extract rfl rfl) ?_
          refine o_val (v := .int .i64 (betE x y)) (x_extract rfl rfl) ?_
          refine o_val (v := .int .i64 (betN x y)) (x_assign rfl) ?_
          refine o_val (v := .int .i64 (betE x y)) (x_assign rfl) ?_
          refine o_nil ?_
          refine e_seq ?_
          refine c_seq ?_
          refine c_seq ?_
          refine c_region ?_
          refine o_val (v := .int .i64 (betE x y)) (x_move rfl) ?_
          refine o_val (v := .bool (decide ((betE x y : Int) ≠ (0 : Int)))) (x_neq rfl rfl) ?_
          refine o_nil ?_
          refine e_seq ?_
          refine c_splitd (d := 97) (p := (betE x y : Int) ≠ (0 : Int)) rfl (fun hc3 => ?_) (fun hc3 => ?_)
          ·
            refine c_ift rfl ?_
            refine c_seq ?_
            refine c_region ?_
            refine o_val (v := .bool true) (x_move rfl) ?_
            refine o_val (v := .bool true) (x_assign rfl) ?_
            refine o_nil ?_
            refine e_seq ?_
            refine c_ret (e_ret (post_ret (res_1 (v := .bool true) rfl rfl) ?_))
            exact ⟨rfl, hF.same⟩
          ·
            refine c_iff rfl ?_
            refine c_skip ?_
            refine e_seq ?_
            refine c_seq ?_
            have hbr : rightB x = true ∧ rightB y = true := betE_right (by assumption)
            refine c_drawF [] (.free 0 (.free 3 (.alt 1 (.alt 2 (.act 4 (.act 5 (.act 6 (.free 7 (.free 8 (.free 9 (.free 10 (.free 11 .nil)))))))) (.act 4 (.act 2 (.act 5 (.act 6 (.free 7 (.free 8 (.free 9 (.free 10 (.free 11 .nil)))))))))) (.act 4 (.act 1 (.act 2 (.act 5 (.act 6 (.free 7 (.free 8 (.free 9 (.free 10 (.free 11 .nil))))))))))))) (by kernel_rfl) hF (by kernel_rfl) (by kernel_rfl) ?_
            clear hF; intro w hF hE
            clear hE
            refine ⟨fun wq => FR w0 [] [(b3, .cells (List.toArray cy) 25), (b2, .cells (List.toArray cx) 25), (b1, .cells #[.slice (A0) (l0.length) (c0), .slice (B0) (f0.length) (e0)] 30)] wq, hF, ?_⟩
            refine f_free rfl (v := .agg (List.toArray cx)) (fun w hC => x_loadS (l := cx) Tryz.isAgg25 Tryz.sizeOf25 rfl hlcx (hC.cellsAll 1 rfl)) ?_
            refine f_free rfl (v := .agg (List.toArray cy)) (fun w hC => x_loadS (l := cy) Tryz.isAgg25 Tryz.sizeOf25 rfl hlcy (hC.cellsAll 0 rfl)) ?_
            refine d_alt ?_ ?_
            ·
              refine f_new rfl (v := fun b => .slice (some ⟨b, 0, none⟩) 1 1) hF (x_buildSlice1 (l := cx) Tryz.underlying23 Tryz.sizeOf25 Tryz.zeroValue25 (by decide) (by decide) rfl hlcx) ?_
              clear hF; intro b9 w hb9 hF hE
              clear hE
              refine ⟨hF.sub (.cons _ (.cons_cons _ (.cons_cons _ (.cons_cons _ .slnil)))), ?_⟩
              refine d_alt ?_ ?_
              ·
                refine f_call rfl (row_c (some ⟨b9, 0, none⟩) 1 1 _) (x_call1 en_17 rfl rfl) ?_
                rintro _ w ⟨rfl, hE⟩
                replace hF := hF.ext hE
                clear hE
                refine ⟨hF.sub (.cons _ (.cons_cons _ (.cons_cons _ (.cons_cons _ .slnil)))), ?_⟩
                refine f_new rfl (v := fun b => .slice (some ⟨b, 0, none⟩) 1 1) hF (x_buildSlice1 (l := cy) Tryz.underlying23 Tryz.sizeOf25 Tryz.zeroValue25 (by decide) (by decide) rfl hlcy) ?_
                clear hF; intro b10 w hb10 hF hE
                clear hE
                refine ⟨hF.sub (.cons _ (.cons _ (.cons_cons _ (.cons_cons _ (.cons_cons _ .slnil))))), ?_⟩
                refine f_call rfl (row_c (some ⟨b10, 0, none⟩) 1 1 _) (x_call1 en_17 rfl rfl) ?_
                rintro _ w ⟨rfl, hE⟩
                replace hF := hF.ext hE
                clear hE
                refine ⟨hF.sub (.cons _ (.cons _ (.cons_cons _ (.cons_cons _ (.cons_cons _ .slnil))))), ?_⟩
                refine f_call rfl (between_c (inRow x) (inRow y) _ _ _ [.int .i64 (5), .string (bs ([])), .slice (none) (0) (0), .slice (some ⟨b9, 0, none⟩) (1) (1)] [.int .i64 (5), .string (bs ([])), .slice (none) (0) (0), .slice (some ⟨b10, 0, none⟩) (1) (1)] (show Rep (fun _ => True) w (treeD (inRow x)) [.int .i64 (5), .string (bs ([])), .slice (none) (0) (0), .slice (some ⟨b9, 0, none⟩) (1) (1)] from Rep.tree_mk (ks := []) ⟨by omega, by omega⟩ (by simp) (Rep.nil_slice 0 (by omega) none) (hF.rowAll 1 rfl (RepL.single (hF.rep rx)) rfl (by omega))) (show Rep (fun _ => True) w (treeD (inRow y)) [.int .i64 (5), .string (bs ([])), .slice (none) (0) (0), .slice (some ⟨b10, 0, none⟩) (1) (1)] from Rep.tree_mk (ks := []) ⟨by omega, by omega⟩ (by simp) (Rep.nil_slice 0 (by omega) none) (hF.rowAll 0 rfl (RepL.single (hF.rep ry)) rfl (by omega))) (hG.ext hF.same) (by omega) (by omega) (by omega) (by omega)) (x_call2 en_11 rfl rfl rfl) ?_
                rintro _ w ⟨rfl, hE⟩
                replace hF := hF.ext hE
                clear hE
                refine ⟨hF.sub (.cons _ (.cons _ (.cons_cons _ (.cons_cons _ (.cons_cons _ .slnil))))), ?_⟩
                refine f_free rfl (v := .tuple #[.int .i64 (betN (inRow x) (inRow y)), .int .i64 (betE (inRow x) (inRow y))]) (fun w hC => x_move rfl) ?_
                refine f_free rfl (v := .int .i64 (betN (inRow x) (inRow y))) (fun w hC => x_extract rfl rfl) ?_
                refine f_free rfl (v := .int .i64 (betE (inRow x) (inRow y))) (fun w hC => x_extract rfl rfl) ?_
                refine f_free rfl (v := .int .i64 (betN (inRow x) (inRow y))) (fun w hC => x_assign rfl) ?_
                refine f_free rfl (v := .int .i64 (betE (inRow x) (inRow y))) (fun w hC => x_assign rfl) ?_
                refine d_nil ?_
                refine e_seq ?_
                refine c_seq ?_
                refine c_drawF [] (.free 0 (.free 1 (.act 2 (.act 3 (.act 4 (.free 5 (.free 6 (.free 7 (.free 8 (.free 9 .nil)))))))))) (by kernel_rfl) hF (by kernel_rfl) (by kernel_rfl) ?_
                clear hF; intro w hF hE
                clear hE
                refine ⟨fun wq => FR w0 [] [(b10, .cells (List.toArray cy) 25), (b9, .cells (List.toArray cx) 25), (b3, .cells (List.toArray cy) 25), (b2, .cells (List.toArray cx) 25), (b1, .cells #[.slice (A0) (l0.length) (c0), .slice (B0) (f0.length) (e0)] 30)] wq, hF, ?_⟩
                refine f_free rfl (v := .agg (List.toArray cx)) (fun w hC => x_loadS (l := cx) Tryz.isAgg25 Tryz.sizeOf25 rfl hlcx (hC.cellsAll 3 rfl)) ?_
                refine f_free rfl (v := .agg (List.toArray cx)) (fun w hC => x_loadS (l := cx) Tryz.isAgg25 Tryz.sizeOf25 rfl hlcx (hC.cellsAll 3 rfl)) ?_
                refine f_new rfl (v := fun b => .slice (some ⟨b, 0, none⟩) 1 1) hF (x_buildSlice1 (l := cx) Tryz.underlying23 Tryz.sizeOf25 Tryz.zeroValue25 (by decide) (by decide) rfl hlcx) ?_
                clear hF; intro b11 w hb11 hF hE
                clear hE
                refine ⟨hF.sub (.cons _ (.cons_cons _ (.cons_cons _ (.cons_cons _ (.cons_cons _ (.cons_cons _ .slnil)))))), ?_⟩
                refine f_call rfl (row_c (some ⟨b11, 0, none⟩) 1 1 _) (x_call1 en_17 rfl rfl) ?_
                rintro _ w ⟨rfl, hE⟩
                replace hF := hF.ext hE
                clear hE
                refine ⟨hF.sub (.cons _ (.cons_cons _ (.cons_cons _ (.cons_cons _ (.cons_cons _ (.cons_cons _ .slnil)))))), ?_⟩
                refine f_call rfl (between_c x (inRow x) _ _ _ cx [.int .i64 (5), .string (bs ([])), .slice (none) (0) (0), .slice (some ⟨b11, 0, none⟩) (1) (1)] (hF.rep rx) (show Rep (fun _ => True) w (treeD (inRow x)) [.int .i64 (5), .string (bs ([])), .slice (none) (0) (0), .slice (some ⟨b11, 0, none⟩) (1) (1)] from Rep.tree_mk (ks := []) ⟨by omega, by omega⟩ (by simp) (Rep.nil_slice 0 (by omega) none) (hF.rowAll 0 rfl (RepL.single (hF.rep rx)) rfl (by omega))) (hG.ext hF.same) (by omega) (by omega) (by omega) (by omega)) (x_call2 en_11 rfl rfl rfl) ?_
                rintro _ w ⟨rfl, hE⟩
                replace hF := hF.ext hE
                clear hE
                refine ⟨hF.sub (.cons _ (.cons_cons _ (.cons_cons _ (.cons_cons _ (.cons_cons _ (.cons_cons _ .slnil)))))), ?_⟩
                refine f_free rfl (v := .tuple #[.int .i64 (betN x (inRow x)), .int .i64 (betE x (inRow x))]) (fun w hC => x_move rfl) ?_
                refine f_free rfl (v := .int .i64 (betN x (inRow x))) (fun w hC => x_extract rfl rfl) ?_
                refine f_free rfl (v := .int .i64 (betE x (inRow x))) (fun w hC => x_extract rfl rfl) ?_
                refine f_free rfl (v := .int .i64 (betN x (inRow x))) (fun w hC => x_assign rfl) ?_
                refine f_free rfl (v := .int .i64 (betE x (inRow x))) (fun w hC => x_assign rfl) ?_
                refine d_nil ?_
                refine e_seq ?_
                refine c_seq ?_
                refine c_region ?_
                refine o_val (v := .bool true) (x_move rfl) ?_
                refine o_val (v := .bool true) (x_move rfl) ?_
                refine o_val (v := .int .i64 (betE (inRow x) (inRow y))) (x_move rfl) ?_
                refine o_val (v := .bool (decide ((betE (inRow x) (inRow y) : Int) ≠ (0 : Int)))) (x_neq rfl rfl) ?_
                refine o_val (v := .bool (decide ((betE (inRow x) (inRow y) : Int) ≠ (0 : Int)))) (x_move rfl) ?_
                refine o_splitd (d := 121) (p := (betE (inRow x) (inRow y) : Int) ≠ (0 : Int)) rfl (fun hg17 => ?_) (fun hg17 => ?_)
                ·
                  refine o_off ?_
                  refine o_off ?_
                  refine o_off ?_
                  refine o_val (v := .bool true) (x_pickt rfl rfl) ?_
                  refine o_val (v := .bool true) (x_pickt rfl rfl) ?_
                  refine o_val (v := .bool true) (x_move rfl) ?_
                  refine o_val (v := .int .i64 (betE x (inRow x))) (x_move rfl) ?_
                  refine o_val (v := .bool (decide ((betE x (inRow x) : Int) ≠ (0 : Int)))) (x_neq rfl rfl) ?_
                  refine o_val (v := .bool (decide ((betE x (inRow x) : Int) ≠ (0 : Int)))) (x_move rfl) ?_
                  refine o_splitd (d := 130) (p := (betE x (inRow x) : Int) ≠ (0 : Int)) rfl (fun hg18 => ?_) (fun hg18 => ?_)
                  ·
                    refine o_off ?_
                    refine o_off ?_
                    refine o_val (v := .bool true) (x_pickt rfl rfl) ?_
                    refine o_val (v := .bool true) (x_pickt rfl rfl) ?_
                    refine o_val (v := .bool true) (x_assign rfl) ?_
                    refine o_nil ?_
                    refine e_seq ?_
                    refine c_ret (e_ret (post_ret (res_1 (v := .bool true) rfl rfl) ?_))
                    exact ⟨rfl, hF.same⟩
                  ·
                    refine o_val (v := .int .i64 (betN x (inRow x))) (x_move rfl) ?_
                    refine o_val (v := .bool true) (run_true (x_eql rfl rfl) (bet_in hbr.1 (by omega) (Classical.not_not.1 (by assumption)))) ?_
                    refine o_val (v := .bool true) (x_pickf rfl rfl) ?_
                    refine o_val (v := .bool true) (x_pickt rfl rfl) ?_
                    refine o_val (v := .bool true) (x_assign rfl) ?_
                    refine o_nil ?_
                    refine e_seq ?_
                    refine c_ret (e_ret (post_ret (res_1 (v := .bool true) rfl rfl) ?_))
                    exact ⟨rfl, hF.same⟩
                ·
                  refine o_val (v := .int .i64 (betN (inRow x) (inRow y))) (x_move rfl) ?_
                  refine o_val (v := .int .i64 (betN x y)) (x_move rfl) ?_
                  refine o_val (v := .bool true) (run_true (x_eql rfl rfl) (bet_row hbr.1 hbr.2 (by omega) (by omega) (Classical.not_not.1 (by assumption)))) ?_
                  refine o_val (v := .bool true) (x_pickf rfl rfl) ?_
                  refine o_val (v := .bool true) (x_pickt rfl rfl) ?_
                  refine o_val (v := .bool true) (x_move rfl) ?_
                  refine o_val (v := .int .i64 (betE x (inRow x))) (x_move rfl) ?_
                  refine o_val (v := .bool (decide ((betE x (inRow x) : Int) ≠ (0 : Int)))) (x_neq rfl rfl) ?_
                  refine o_val (v := .bool (decide ((betE x (inRow x) : Int) ≠ (0 : Int)))) (x_move rfl) ?_
                  refine o_splitd (d := 130) (p := (betE x (inRow x) : Int) ≠ (0 : Int)) rfl (fun hg19 => ?_) (fun hg19 => ?_)
                  ·
                    refine o_off ?_
                    refine o_off ?_
                    refine o_val (v := .bool true) (x_pickt rfl rfl) ?_
                    refine o_val (v := .bool true) (x_pickt rfl rfl) ?_
                    refine o_val (v := .bool true) (x_assign rfl) ?_
                    refine o_nil ?_
                    refine e_seq ?_
                    refine c_ret (e_ret (post_ret (res_1 (v := .bool true) rfl rfl) ?_))
                    exact ⟨rfl, hF.same⟩
                  ·
                    refine o_val (v := .int .i64 (betN x (inRow x))) (x_move rfl) ?_
                    refine o_val (v := .bool true) (run_true (x_eql rfl rfl) (bet_in hbr.1 (by omega) (Classical.not_not.1 (by assumption)))) ?_
                    refine o_val (v := .bool true) (x_pickf rfl rfl) ?_
                    refine o_val (v := .bool true) (x_pickt rfl rfl) ?_
                    refine o_val (v := .bool true) (x_assign rfl) ?_
                    refine o_nil ?_
                    refine e_seq ?_
                    refine c_ret (e_ret (post_ret (res_1 (v := .bool true) rfl rfl) ?_))
                    exact ⟨rfl, hF.same⟩
              ·
                refine f_new rfl (v := fun b => .slice (some ⟨b, 0, none⟩) 1 1) hF (x_buildSlice1 (l := cy) Tryz.underlying23 Tryz.sizeOf25 Tryz.zeroValue25 (by decide) (by decide) rfl hlcy) ?_
                clear hF; intro b12 w hb12 hF hE
                clear hE
                refine ⟨hF.sub (.cons _ (.cons _ (.cons_cons _ (.cons_cons _ (.cons_cons _ .slnil))))), ?_⟩
                refine f_call rfl (row_c (some ⟨b9, 0, none⟩) 1 1 _) (x_call1 en_17 rfl rfl) ?_
                rintro _ w ⟨rfl, hE⟩
                replace hF := hF.ext hE
                clear hE
                refine ⟨hF.sub (.cons _ (.cons _ (.cons_cons _ (.cons_cons _ (.cons_cons _ .slnil))))), ?_⟩
                refine f_call rfl (row_c (some ⟨b12, 0, none⟩) 1 1 _) (x_call1 en_17 rfl rfl) ?_
                rintro _ w ⟨rfl, hE⟩
                replace hF := hF.ext hE
                clear hE
                refine ⟨hF.sub (.cons _ (.cons _ (.cons_cons _ (.cons_cons _ (.cons_cons _ .slnil))))), ?_⟩
                refine f_call rfl (between_c (inRow x) (inRow y) _ _ _ [.int .i64 (5), .string (bs ([])), .slice (none) (0) (0), .slice (some ⟨b9, 0, none⟩) (1) (1)] [.int .i64 (5), .string (bs ([])), .slice (none) (0) (0), .slice (some ⟨b12, 0, none⟩) (1) (1)] (show Rep (fun _ => True) w (treeD (inRow x)) [.int .i64 (5), .string (bs ([])), .slice (none) (0) (0), .slice (some ⟨b9, 0, none⟩) (1) (1)] from Rep.tree_mk (ks := []) ⟨by omega, by omega⟩ (by simp) (Rep.nil_slice 0 (by omega) none) (hF.rowAll 1 rfl (RepL.single (hF.rep rx)) rfl (by omega))) (show Rep (fun _ => True) w (treeD (inRow y)) [.int .i64 (5), .string (bs ([])), .slice (none) (0) (0), .slice (some ⟨b12, 0, none⟩) (1) (1)] from Rep.tree_mk (ks := []) ⟨by omega, by omega⟩ (by simp) (Rep.nil_slice 0 (by omega) none) (hF.rowAll 0 rfl (RepL.single (hF.rep ry)) rfl (by omega))) (hG.ext hF.same) (by omega) (by omega) (by omega) (by omega)) (x_call2 en_11 rfl rfl rfl) ?_
                rintro _ w ⟨rfl, hE⟩
                replace hF := hF.ext hE
                clear hE
                refine ⟨hF.sub (.cons _ (.cons _ (.cons_cons _ (.cons_cons _ (.cons_cons _ .slnil))))), ?_⟩
                refine f_free rfl (v := .tuple #[.int .i64 (betN (inRow x) (inRow y)), .int .i64 (betE (inRow x) (inRow y))]) (fun w hC => x_move rfl) ?_
                refine f_free rfl (v := .int .i64 (betN (inRow x) (inRow y))) (fun w hC => x_extract rfl rfl) ?_
                refine f_free rfl (v := .int .i64 (betE (inRow x) (inRow y))) (fun w hC => x_extract rfl rfl) ?_
                refine f_free rfl (v := .int .i64 (betN (inRow x) (inRow y))) (fun w hC => x_assign rfl) ?_
                refine f_free rfl (v := .int .i64 (betE (inRow x) (inRow y))) (fun w hC => x_assign rfl) ?_
                refine d_nil ?_
                refine e_seq ?_
                refine c_seq ?_
                refine c_drawF [] (.free 0 (.free 1 (.act 2 (.act 3 (.act 4 (.free 5 (.free 6 (.free 7 (.free 8 (.free 9 .nil)))))))))) (by kernel_rfl) hF (by kernel_rfl) (by kernel_rfl) ?_
                clear hF; intro w hF hE
                clear hE
                refine ⟨fun wq => FR w0 [] [(b12, .cells (List.toArray cy) 25), (b9, .cells (List.toArray cx) 25), (b3, .cells (List.toArray cy) 25), (b2, .cells (List.toArray cx) 25), (b1, .cells #[.slice (A0) (l0.length) (c0), .slice (B0) (f0.length) (e0)] 30)] wq, hF, ?_⟩
                refine f_free rfl (v := .agg (List.toArray cx)) (fun w hC => x_loadS (l := cx) Tryz.isAgg25 Tryz.sizeOf25 rfl hlcx (hC.cellsAll 3 rfl)) ?_
                refine f_free rfl (v := .agg (List.toArray cx)) (fun w hC => x_loadS (l := cx) Tryz.isAgg25 Tryz.sizeOf25 rfl hlcx (hC.cellsAll 3 rfl)) ?_
                refine f_new rfl (v := fun b => .slice (some ⟨b, 0, none⟩) 1 1) hF (x_buildSlice1 (l := cx) Tryz.underlying23 Tryz.sizeOf25 Tryz.zeroValue25 (by decide) (by decide) rfl hlcx) ?_
                clear hF; intro b13 w hb13 hF hE
                clear hE
                refine ⟨hF.sub (.cons _ (.cons_cons _ (.cons_cons _ (.cons_cons _ (.cons_cons _ (.cons_cons _ .slnil)))))), ?_⟩
                refine f_call rfl (row_c (some ⟨b13, 0, none⟩) 1 1 _) (x_call1 en_17 rfl rfl) ?_
                rintro _ w ⟨rfl, hE⟩
                replace hF := hF.ext hE
                clear hE
                refine ⟨hF.sub (.cons _ (.cons_cons _ (.cons_cons _ (.cons_cons _ (.cons_cons _ (.cons_cons _ .slnil)))))), ?_⟩
                refine f_call rfl (between_c x (inRow x) _ _ _ cx [.int .i64 (5), .string (bs ([])), .slice (none) (0) (0), .slice (some ⟨b13, 0, none⟩) (1) (1)] (hF.rep rx) (show Rep (fun _ => True) w (treeD (inRow x)) [.int .i64 (5), .string (bs ([])), .slice (none) (0) (0), .slice (some ⟨b13, 0, none⟩) (1) (1)] from Rep.tree_mk (ks := []) ⟨by omega, by omega⟩ (by simp) (Rep.nil_slice 0 (by omega) none) (hF.rowAll 0 rfl (RepL.single (hF.rep rx)) rfl (by omega))) (hG.ext hF.same) (by omega) (by omega) (by omega) (by omega)) (x_call2 en_11 rfl rfl rfl) ?_
                rintro _ w ⟨rfl, hE⟩
                replace hF := hF.ext hE
                clear hE
                refine ⟨hF.sub (.cons _ (.cons_cons _ (.cons_cons _ (.cons_cons _ (.cons_cons _ (.cons_cons _ .slnil)))))), ?_⟩
                refine f_free rfl (v := .tuple #[.int .i64 (betN x (inRow x)), .int .i64 (betE x (inRow x))]) (fun w hC => x_move rfl) ?_
                refine f_free rfl (v := .int .i64 (betN x (inRow x))) (fun w hC => x_extract rfl rfl) ?_
                refine f_free rfl (v := .int .i64 (betE x (inRow x))) (fun w hC => x_extract rfl rfl) ?_
                refine f_free rfl (v := .int .i64 (betN x (inRow x))) (fun w hC => x_assign rfl) ?_
                refine f_free rfl (v := .int .i64 (betE x (inRow x))) (fun w hC => x_assign rfl) ?_
                refine d_nil ?_
                refine e_seq ?_
                refine c_seq ?_
                refine c_region ?_
                refine o_val (v := .bool true) (x_move rfl) ?_
                refine o_val (v := .bool true) (x_move rfl) ?_
                refine o_val (v := .int .i64 (betE (inRow x) (inRow y))) (x_move rfl) ?_
                refine o_val (v := .bool (decide ((betE (inRow x) (inRow y) : Int) ≠ (0 : Int)))) (x_neq rfl rfl) ?_
                refine o_val (v := .bool (decide ((betE (inRow x) (inRow y) : Int) ≠ (0 : Int)))) (x_move rfl) ?_
                refine o_splitd (d := 121) (p := (betE (inRow x) (inRow y) : Int) ≠ (0 : Int)) rfl (fun hg20 => ?_) (fun hg20 => ?_)
                ·
                  refine o_off ?_
                  refine o_off ?_
                  refine o_off ?_
                  refine o_val (v := .bool true) (x_pickt rfl rfl) ?_
                  refine o_val (v := .bool true) (x_pickt rfl rfl) ?_
                  refine o_val (v := .bool true) (x_move rfl) ?_
                  refine o_val (v := .int .i64 (betE x (inRow x))) (x_move rfl) ?_
                  refine o_val (v := .bool (decide ((betE x (inRow x) : Int) ≠ (0 : Int)))) (x_neq rfl rfl) ?_
                  refine o_val (v := .bool (decide ((betE x (inRow x) : Int) ≠ (0 : Int)))) (x_move rfl) ?_
                  refine o_splitd (d := 130) (p := (betE x (inRow x) : Int) ≠ (0 : Int)) rfl (fun hg21 => ?_) (fun hg21 => ?_)
                  ·
                    refine o_off ?_
                    refine o_off ?_
                    refine o_val (v := .bool true) (x_pickt rfl rfl) ?_
                    refine o_val (v := .bool true) (x_pickt rfl rfl) ?_
                    refine o_val (v := .bool true) (x_assign rfl) ?_
                    refine o_nil ?_
                    refine e_seq ?_
                    refine c_ret (e_ret (post_ret (res_1 (v := .bool true) rfl rfl) ?_))
                    exact ⟨rfl, hF.same⟩
                  ·
                    refine o_val (v := .int .i64 (betN x (inRow x))) (x_move rfl) ?_
                    refine o_val (v := .bool true) (run_true (x_eql rfl rfl) (bet_in hbr.1 (by omega) (Classical.not_not.1 (by assumption)))) ?_
                    refine o_val (v := .bool true) (x_pickf rfl rfl) ?_
                    refine o_val (v := .bool true) (x_pickt rfl rfl) ?_
                    refine o_val (v := .bool true) (x_assign rfl) ?_
                    refine o_nil ?_
                    refine e_seq ?_
                    refine c_ret (e_ret (post_ret (res_1 (v := .bool true) rfl rfl) ?_))
                    exact ⟨rfl, hF.same⟩
                ·
                  refine o_val (v := .int .i64 (betN (inRow x) (inRow y))) (x_move rfl) ?_
                  refine o_val (v := .int .i64 (betN x y)) (x_move rfl) ?_
                  refine o_val (v := .bool true) (run_true (x_eql rfl rfl) (bet_row hbr.1 hbr.2 (by omega) (by omega) (Classical.not_not.1 (by assumption)))) ?_
                  refine o_val (v := .bool true) (x_pickf rfl rfl) ?_
                  refine o_val (v := .bool true) (x_pickt rfl rfl) ?_
                  refine o_val (v := .bool true) (x_move rfl) ?_
                  refine o_val (v := .int .i64 (betE x (inRow x))) (x_move rfl) ?_
                  refine o_val (v := .bool (decide ((betE x (inRow x) : Int) ≠ (0 : Int)))) (x_neq rfl rfl) ?_
                  refine o_val (v := .bool (decide ((betE x (inRow x) : Int) ≠ (0 : Int)))) (x_move rfl) ?_
                  refine o_splitd (d := 130) (p := (betE x (inRow x) : Int) ≠ (0 : Int)) rfl (fun hg22 => ?_) (fun hg22 => ?_)
                  ·
                    refine o_off ?_
                    refine o_off ?_
                    refine o_val (v := .bool true) (x_pickt rfl rfl) ?_
                    refine o_val (v := .bool true) (x_pickt rfl rfl) ?_
                    refine o_val (v := .bool true) (x_assign rfl) ?_
                    refine o_nil ?_
                    refine e_seq ?_
                    refine c_ret (e_ret (post_ret (res_1 (v := .bool true) rfl rfl) ?_))
                    exact ⟨rfl, hF.same⟩
                  ·
                    refine o_val (v := .int .i64 (betN x (inRow x))) (x_move rfl) ?_
                    refine o_val (v := .bool true) (run_true (x_eql rfl rfl) (bet_in hbr.1 (by omega) (Classical.not_not.1 (by assumption)))) ?_
                    refine o_val (v := .bool true) (x_pickf rfl rfl) ?_
                    refine o_val (v := .bool true) (x_pickt rfl rfl) ?_
                    refine o_val (v := .bool true) (x_assign rfl) ?_
                    refine o_nil ?_
                    refine e_seq ?_
                    refine c_ret (e_ret (post_ret (res_1 (v := .bool true) rfl rfl) ?_))
                    exact ⟨rfl, hF.same⟩
            ·
              refine f_new rfl (v := fun b => .slice (some ⟨b, 0, none⟩) 1 1) hF (x_buildSlice1 (l := cy) Tryz.underlying23 Tryz.sizeOf25 Tryz.zeroValue25 (by decide) (by decide) rfl hlcy) ?_
              clear hF; intro b14 w hb14 hF hE
              clear hE
              refine ⟨hF.sub (.cons _ (.cons_cons _ (.cons_cons _ (.cons_cons _ .slnil)))), ?_⟩
              refine f_new rfl (v := fun b => .slice (some ⟨b, 0, none⟩) 1 1) hF (x_buildSlice1 (l := cx) Tryz.underlying23 Tryz.sizeOf25 Tryz.zeroValue25 (by decide) (by decide) rfl hlcx) ?_
              clear hF; intro b15 w hb15 hF hE
              clear hE
              refine ⟨hF.sub (.cons _ (.cons _ (.cons_cons _ (.cons_cons _ (.cons_cons _ .slnil))))), ?_⟩
              refine f_call rfl (row_c (some ⟨b15, 0, none⟩) 1 1 _) (x_call1 en_17 rfl rfl) ?_
              rintro _ w ⟨rfl, hE⟩
              replace hF := hF.ext hE
              clear hE
              refine ⟨hF.sub (.cons _ (.cons _ (.cons_cons _ (.cons_cons _ (.cons_cons _ .slnil))))), ?_⟩
              refine f_call rfl (row_c (some ⟨b14, 0, none⟩) 1 1 _) (x_call1 en_17 rfl rfl) ?_
              rintro _ w ⟨rfl, hE⟩
              replace hF := hF.ext hE
              clear hE
              refine ⟨hF.sub (.cons _ (.cons _ (.cons_cons _ (.cons_cons _ (.cons_cons _ .slnil))))), ?_⟩
              refine f_call rfl (between_c (inRow x) (inRow y) _ _ _ [.int .i64 (5), .string (bs ([])), .slice (none) (0) (0), .slice (some ⟨b15, 0, none⟩) (1) (1)] [.int .i64 (5), .string (bs ([])), .slice (none) (0) (0), .slice (some ⟨b14, 0, none⟩) (1) (1)] (show Rep (fun _ => True) w (treeD (inRow x)) [.int .i64 (5), .string (bs ([])), .slice (none) (0) (0), .slice (some ⟨b15, 0, none⟩) (1) (1)] from Rep.tree_mk (ks := []) ⟨by omega, by omega⟩ (by simp) (Rep.nil_slice 0 (by omega) none) (hF.rowAll 0 rfl (RepL.single (hF.rep rx)) rfl (by omega))) (show Rep (fun _ => True) w (treeD (inRow y)) [.int .i64 (5), .string (bs ([])), .slice (none) (0) (0), .slice (some ⟨b14, 0, none⟩) (1) (1)] from Rep.tree_mk (ks := []) ⟨by omega, by omega⟩ (by simp) (Rep.nil_slice 0 (by omega) none) (hF.rowAll 1 rfl (RepL.single (hF.rep ry)) rfl (by omega))) (hG.ext hF.same) (by omega) (by omega) (by omega) (by omega)) (x_call2 en_11 rfl rfl rfl) ?_
              rintro _ w ⟨rfl, hE⟩
              replace hF := hF.ext hE
              clear hE
              refine ⟨hF.sub (.cons _ (.cons _ (.cons_cons _ (.cons_cons _ (.cons_cons _ .slnil))))), ?_⟩
              refine f_free rfl (v := .tuple #[.int .i64 (betN (inRow x) (inRow y)), .int .i64 (betE (inRow x) (inRow y))]) (fun w hC => x_move rfl) ?_
              refine f_free rfl (v := .int .i64 (betN (inRow x) (inRow y))) (fun w hC => x_extract rfl rfl) ?_
              refine f_free rfl (v := .int .i64 (betE (inRow x) (inRow y))) (fun w hC => x_extract rfl rfl) ?_
              refine f_free rfl (v := .int .i64 (betN (inRow x) (inRow y))) (fun w hC => x_assign rfl) ?_
              refine f_free rfl (v := .int .i64 (betE (inRow x) (inRow y))) (fun w hC => x_assign rfl) ?_
              refine d_nil ?_
              refine e_seq ?_
              refine c_seq ?_
              refine c_drawF [] (.free 0 (.free 1 (.act 2 (.act 3 (.act 4 (.free 5 (.free 6 (.free 7 (.free 8 (.free 9 .nil)))))))))) (by kernel_rfl) hF (by kernel_rfl) (by kernel_rfl) ?_
              clear hF; intro w hF hE
              clear hE
              refine ⟨fun wq => FR w0 [] [(b15, .cells (List.toArray cx) 25), (b14, .cells (List.toArray cy) 25), (b3, .cells (List.toArray cy) 25), (b2, .cells (List.toArray cx) 25), (b1, .cells #[.slice (A0) (l0.length) (c0), .slice (B0) (f0.length) (e0)] 30)] wq, hF, ?_⟩
              refine f_free rfl (v := .agg (List.toArray cx)) (fun w hC => x_loadS (l := cx) Tryz.isAgg25 Tryz.sizeOf25 rfl hlcx (hC.cellsAll 3 rfl)) ?_
              refine f_free rfl (v := .agg (List.toArray cx)) (fun w hC => x_loadS (l := cx) Tryz.isAgg25 Tryz.sizeOf25 rfl hlcx (hC.cellsAll 3 rfl)) ?_
              refine f_new rfl (v := fun b => .slice (some ⟨b, 0, none⟩) 1 1) hF (x_buildSlice1 (l := cx) Tryz.underlying23 Tryz.sizeOf25 Tryz.zeroValue25 (by decide) (by decide) rfl hlcx) ?_
              clear hF; intro b16 w hb16 hF hE
              clear hE
              refine ⟨hF.sub (.cons _ (.cons_cons _ (.cons_cons _ (.cons_cons _ (.cons_cons _ (.cons_cons _ .slnil)))))), ?_⟩
              refine f_call rfl (row_c (some ⟨b16, 0, none⟩) 1 1 _) (x_call1 en_17 rfl rfl) ?_
              rintro _ w ⟨rfl, hE⟩
              replace hF := hF.ext hE
              clear hE
              refine ⟨hF.sub (.cons _ (.cons_cons _ (.cons_cons _ (.cons_cons _ (.cons_cons _ (.cons_cons _ .slnil)))))), ?_⟩
              refine f_call rfl (between_c x (inRow x) _ _ _ cx [.int .i64 (5), .string (bs ([])), .slice (none) (0) (0), .slice (some ⟨b16, 0, none⟩) (1) (1)] (hF.rep rx) (show Rep (fun _ => True) w (treeD (inRow x)) [.int .i64 (5), .string (bs ([])), .slice (none) (0) (0), .slice (some ⟨b16, 0, none⟩) (1) (1)] from Rep.tree_mk (ks := []) ⟨by omega, by omega⟩ (by simp) (Rep.nil_slice 0 (by omega) none) (hF.rowAll 0 rfl (RepL.single (hF.rep rx)) rfl (by omega))) (hG.ext hF.same) (by omega) (by omega) (by omega) (by omega)) (x_call2 en_11 rfl rfl rfl) ?_
              rintro _ w ⟨rfl, hE⟩
              replace hF := hF.ext hE
              clear hE
              refine ⟨hF.sub (.cons _ (.cons_cons _ (.cons_cons _ (.cons_cons _ (.cons_cons _ (.cons_cons _ .slnil)))))), ?_⟩
              refine f_free rfl (v := .tuple #[.int .i64 (betN x (inRow x)), .int .i64 (betE x (inRow x))]) (fun w hC => x_move rfl) ?_
              refine f_free rfl (v := .int .i64 (betN x (inRow x))) (fun w hC => x_extract rfl rfl) ?_
              refine f_free rfl (v := .int .i64 (betE x (inRow x))) (fun w hC => x_extract rfl rfl) ?_
              refine f_free rfl (v := .int .i64 (betN x (inRow x))) (fun w hC => x_assign rfl) ?_
              refine f_free rfl (v := .int .i64 (betE x (inRow x))) (fun w hC => x_assign rfl) ?_
              refine d_nil ?_
              refine e_seq ?_
              refine c_seq ?_
              refine c_region ?_
              refine o_val (v := .bool true) (x_move rfl) ?_
              refine o_val (v := .bool true) (x_move rfl) ?_
              refine o_val (v := .int .i64 (betE (inRow x) (inRow y))) (x_move rfl) ?_
              refine o_val (v := .bool (decide ((betE (inRow x) (inRow y) : Int) ≠ (0 : Int)))) (x_neq rfl rfl) ?_
              refine o_val (v := .bool (decide ((betE (inRow x) (inRow y) : Int) ≠ (0 : Int)))) (x_move rfl) ?_
              refine o_splitd (d := 121) (p := (betE (inRow x) (inRow y) : Int) ≠ (0 : Int)) rfl (fun hg23 => ?_) (fun hg23 => ?_)
              ·
                refine o_off ?_
                refine o_off ?_
                refine o_off ?_
                refine o_val (v := .bool true) (x_pickt rfl rfl) ?_
                refine o_val (v := .bool true) (x_pickt rfl rfl) ?_
                refine o_val (v := .bool true) (x_move rfl) ?_
                refine o_val (v := .int .i64 (betE x (inRow x))) (x_move rfl) ?_
                refine o_val (v := .bool (decide ((betE x (inRow x) : Int) ≠ (0 : Int)))) (x_neq rfl rfl) ?_
                refine o_val (v := .bool (decide ((betE x (inRow x) : Int) ≠ (0 : Int)))) (x_move rfl) ?_
                refine o_splitd (d := 130) (p := (betE x (inRow x) : Int) ≠ (0 : Int)) rfl (fun hg24 => ?_) (fun hg24 => ?_)
                ·
                  refine o_off ?_
                  refine o_off ?_
                  refine o_val (v := .bool true) (x_pickt rfl rfl) ?_
                  refine o_val (v := .bool true) (x_pickt rfl rfl) ?_
                  refine o_val (v := .bool true) (x_assign rfl) ?_
                  refine o_nil ?_
                  refine e_seq ?_
                  refine c_ret (e_ret (post_ret (res_1 (v := .bool true) rfl rfl) ?_))
                  exact ⟨rfl, hF.same⟩
                ·
                  refine o_val (v := .int .i64 (betN x (inRow x))) (x_move rfl) ?_
                  refine o_val (v := .bool true) (run_true (x_eql rfl rfl) (bet_in hbr.1 (by omega) (Classical.not_not.1 (by assumption)))) ?_
                  refine o_val (v := .bool true) (x_pickf rfl rfl) ?_
                  refine o_val (v := .bool true) (x_pickt rfl rfl) ?_
                  refine o_val (v := .bool true) (x_assign rfl) ?_
                  refine o_nil ?_
                  refine e_seq ?_
                  refine c_ret (e_ret (post_ret (res_1 (v := .bool true) rfl rfl) ?_))
                  exact ⟨rfl, hF.same⟩
              ·
                refine o_val (v := .int .i64 (betN (inRow x) (inRow y))) (x_move rfl) ?_
                refine o_val (v := .int .i64 (betN x y)) (x_move rfl) ?_
                refine o_val (v := .bool true) (run_true (x_eql rfl rfl) (bet_row hbr.1 hbr.2 (by omega) (by omega) (Classical.not_not.1 (by assumption)))) ?_
                refine o_val (v := .bool true) (x_pickf rfl rfl) ?_
                refine o_val (v := .bool true) (x_pickt rfl rfl) ?_
                refine o_val (v := .bool true) (x_move rfl) ?_
                refine o_val (v := .int .i64 (betE x (inRow x))) (x_move rfl) ?_
                refine o_val (v := .bool (decide ((betE x (inRow x) : Int) ≠ (0 : Int)))) (x_neq rfl rfl) ?_
                refine o_val (v := .bool (decide ((betE x (inRow x) : Int) ≠ (0 : Int)))) (x_move rfl) ?_
                refine o_splitd (d := 130) (p := (betE x (inRow x) : Int) ≠ (0 : Int)) rfl (fun hg25 => ?_) (fun hg25 => ?_)
                ·
                  refine o_off ?_
                  refine o_off ?_
                  refine o_val (v := .bool true) (x_pickt rfl rfl) ?_
                  refine o_val (v := .bool true) (x_pickt rfl rfl) ?_
                  refine o_val (v := .bool true) (x_assign rfl) ?_
                  refine o_nil ?_
                  refine e_seq ?_
                  refine c_ret (e_ret (post_ret (res_1 (v := .bool true) rfl rfl) ?_))
                  exact ⟨rfl, hF.same⟩
                ·
                  refine o_val (v := .int .i64 (betN x (inRow x))) (x_move rfl) ?_
                  refine o_val (v := .bool true) (run_true (x_eql rfl rfl) (bet_in hbr.1 (by omega) (Classical.not_not.1 (by assumption)))) ?_
                  refine o_val (v := .bool true) (x_pickf rfl rfl) ?_
                  refine o_val (v := .bool true) (x_pickt rfl rfl) ?_
                  refine o_val (v := .bool true) (x_assign rfl) ?_
                  refine o_nil ?_
                  refine e_seq ?_
                  refine c_ret (e_ret (post_ret (res_1 (v := .bool true) rfl rfl) ?_))
                  exact ⟨rfl, hF.same⟩
    ·
      refine o_off ?_
      refine o_off ?_
      refine o_val (v := .bool false) (x_pickf rfl rfl) ?_
      refine o_val (v := .bool false) (x_assign rfl) ?_
      refine o_nil ?_
      refine e_seq ?_
      refine c_seq ?_
      refine c_seq ?_
      refine c_region ?_
      refine o_val (v := .bool false) (x_move rfl) ?_
      refine o_val (v := .bool true) (x_not (b := false) rfl) ?_
      refine o_val (v := .bool true) (x_move rfl) ?_
      refine o_off ?_
      refine o_off ?_
      refine o_off ?_
      refine o_val (v := .bool true) (x_pickt rfl rfl) ?_
      refine o_nil ?_
      refine e_seq ?_
      refine c_ift rfl ?_
      refine c_seq ?_
      refine c_region ?_
      refine o_val (v := .bool true) (x_move rfl) ?_
      refine o_val (v := .bool true) (x_assign rfl) ?_
      refine o_nil ?_
      refine e_seq ?_
      refine c_ret (e_ret (post_ret (res_1 (v := .bool true) rfl rfl) ?_))
      exact ⟨rfl, hF.same⟩
  ·
    refine o_off ?_
    refine o_off ?_
    refine o_val (v := .bool false) (x_pickf rfl rfl) ?_
    refine o_val (v := .bool false) (x_move rfl) ?_
    refine o_off ?_
    refine o_off ?_
    refine o_val (v := .bool false) (x_pickf rfl rfl) ?_
    refine o_val (v := .bool false) (x_assign rfl) ?_
    refine o_nil ?_
    refine e_seq ?_
    refine c_seq ?_
    refine c_seq ?_
    refine c_region ?_
    refine o_val (v := .bool false) (x_move rfl) ?_
    refine o_val (v := .bool true) (x_not (b := false) rfl) ?_
    refine o_val (v := .bool true) (x_move rfl) ?_
    refine o_off ?_
    refine o_off ?_
    refine o_off ?_
    refine o_val (v := .bool true) (x_pickt rfl rfl) ?_
    refine o_nil ?_
    refine e_seq ?_
    refine c_ift rfl ?_
    refine c_seq ?_
    refine c_region ?_
    refine o_val (v := .bool true) (x_move rfl) ?_
    refine o_val (v := .bool true) (x_assign rfl) ?_
    refine o_nil ?_
    refine e_seq ?_
    refine c_ret (e_ret (post_ret (res_1 (v := .bool true) rfl rfl) ?_))
    exact ⟨rfl, hF.same⟩
end Go.Scarf
