/- A part of the proof. -/
import Derived.Test.YtpliibolgknenaaGreatDoorX9
set_option linter.all false
namespace Go.Scarf
open Go.RowKit Go.Proofs
theorem none_right : RightT [] [] := ⟨rfl, by simp, fun j h => absurd h (by simp)⟩
theorem td_root (ls : List Str) (fs : List Int) (gs : List Str) (hs : List Int) (h1 : RightT ls fs) (h2 : RightT gs hs) (n1 : 0 < ls.length) (n2 : 0 < gs.length) (e1 : fs.getD (ls.length - 1) 0 = 0) (e2 : hs.getD (gs.length - 1) 0 = 0) : td (nodesT ls fs) (nodesT gs hs) (ls.length - 1) (gs.length - 1) = costT ls fs gs hs := by
  have a : (nodesT ls fs).lf (ls.length - 1) = 0 := by show lfN fs (ls.length - 1) = 0; unfold lfN; rw [e1]; simp
  have b : (nodesT gs hs).lf (gs.length - 1) = 0 := by show lfN hs (gs.length - 1) = 0; unfold lfN; rw [e2]; simp
  unfold td costT
  rw [a, b, show ls.length - 1 + 1 = ls.length by omega, show gs.length - 1 + 1 = gs.length by omega]
set_option maxHeartbeats 4000000 in
set_option maxRecDepth 10000 in
theorem tedNone_w (w0 : World) (hG : Gl w0) (l0 : List Str) (f0 : List Int) (A0 : Option Addr) (c0 : Nat) (B0 : Option Addr) (e0 : Nat) (r0 : Rep (fun _ => True) w0 (strsD l0) [.slice A0 l0.length c0]) (q0 : Rep (fun _ => True) w0 (.slice (f0.map intD)) [.slice B0 f0.length e0]) (l1 : List Str) (f1 : List Int) (A1 : Option Addr) (c1 : Nat) (B1 : Option Addr) (e1 : Nat) (r1 : Rep (fun _ => True) w0 (strsD l1) [.slice A1 l1.length c1]) (q1 : Rep (fun _ => True) w0 (.slice (f1.map intD)) [.slice B1 f1.length e1]) : Calls Tryz.prog 7 #[.agg #[.slice A0 l0.length c0, .slice B0 f0.length e0], .agg #[.slice A1 l1.length c1, .slice B1 f1.length e1]] w0 (Ret fun v w' => v = .bool true ∧ Same [] w0 w') := by
  have hl0 := r0.slice_len
  have hf0 := q0.slice_len
  rw [List.length_map] at hf0
  have hl1 := r1.slice_len
  have hf1 := q1.slice_len
  rw [List.length_map] at hf1
  refine calls_start Tryz.func7 rfl Tryz.ntmps7 (Nat.le_of_ble_eq_true rfl) (args_2 _ _) ?_
  have hF := FR.start w0 []
  refine c_seq ?_
  refine c_region ?_
  refine o_box (v := .agg #[.slice (A0) (l0.length) (c0), .slice (B0) (f0.length) (e0)]) (cs := #[.slice (A0) (l0.length) (c0), .slice (B0) (f0.length) (e0)]) hF rfl rfl ?_
  clear hF; intro b1 w hb1 hF hE
  clear hE
  refine o_box (v := .agg #[.slice (A1) (l1.length) (c1), .slice (B1) (f1.length) (e1)]) (cs := #[.slice (A1) (l1.length) (c1), .slice (B1) (f1.length) (e1)]) hF rfl rfl ?_
  clear hF; intro b2 w hb2 hF hE
  clear hE
  refine o_val (v := .bool false) (x_assign rfl) ?_
  refine o_nil ?_
  refine e_seq ?_
  refine c_seq ?_
  refine c_region ?_
  refine o_call (small16_c _ (hG.ext hF.same)) (x_call0 en_8 rfl) ?_
  rintro _ w ⟨rfl, hE⟩
  replace hF := hF.ext hE
  clear hE
  refine o_val (v := .bool true) (x_assign rfl) ?_
  refine o_nil ?_
  refine e_seq ?_
  refine c_seq ?_
  refine c_region ?_
  refine o_val (v := .agg #[.slice (A0) (l0.length) (c0), .slice (B0) (f0.length) (e0)]) (x_loadS (l := [.slice (A0) (l0.length) (c0), .slice (B0) (f0.length) (e0)]) Tryz.isAgg30 Tryz.sizeOf30 rfl rfl (hF.cellsAll 1 rfl)) ?_
  refine o_call (fewN_c _ _ l0 f0 A0 B0 c0 e0 (hF.rep r0) (hF.rep q0) 40) (x_call2 en_13 rfl rfl rfl) ?_
  rintro _ w ⟨rfl, hE⟩
  replace hF := hF.ext hE
  clear hE
  refine o_val (v := .bool (fewN l0 f0 40)) (x_move rfl) ?_
  refine o_split (d := 18) (b := fewN l0 f0 40) rfl (fun hg0 => ?_) (fun hg0 => ?_)
  ·
    refine o_val (v := .agg #[.slice (A1) (l1.length) (c1), .slice (B1) (f1.length) (e1)]) (x_loadS (l := [.slice (A1) (l1.length) (c1), .slice (B1) (f1.length) (e1)]) Tryz.isAgg30 Tryz.sizeOf30 rfl rfl (hF.cellsAll 0 rfl)) ?_
    refine o_call (fewN_c _ _ l1 f1 A1 B1 c1 e1 (hF.rep r1) (hF.rep q1) 40) (x_call2 en_13 rfl rfl rfl) ?_
    rintro _ w ⟨rfl, hE⟩
    replace hF := hF.ext hE
    clear hE
    refine o_val (v := .bool (fewN l1 f1 40)) (x_pickt rfl rfl) ?_
    refine o_val (v := .bool (fewN l1 f1 40)) (x_assign rfl) ?_
    refine o_nil ?_
    refine e_seq ?_
    refine c_seq ?_
    refine c_seq ?_
    refine c_region ?_
    refine o_val (v := .bool (fewN l1 f1 40)) (x_move rfl) ?_
    refine o_val (v := .bool (!(fewN l1 f1 40))) (x_not rfl) ?_
    refine o_val (v := .bool (!(fewN l1 f1 40))) (x_move rfl) ?_
    refine o_split (d := 24) (b := !(fewN l1 f1 40)) rfl (fun hg1 => ?_) (fun hg1 => ?_)
    ·
      refine o_off ?_
      refine o_off ?_
      refine o_off ?_
      refine o_val (v := .bool true) (x_pickt rfl rfl) ?_
      refine o_val (v := .bool true) (x_move rfl) ?_
      refine o_off ?_
      refine o_off ?_
      refine o_off ?_
      refine o_val (v := .bool true) (x_pickt rfl rfl) ?_
      refine o_nil ?_
      refine e_seq ?_
      refine c_ift rfl ?_
      refine c_seq ?_
      refine c_region ?_
      refine o_val (v := .bool true) (x_move rfl) ?_
      refine o_val (v := .bool true) (x_assign rfl) ?_
      refine o_nil ?_
      refine e_seq ?_
      refine c_ret (e_ret (post_ret (res_1 (v := .bool true) rfl rfl) ?_))
      exact ⟨rfl, hF.same⟩
    ·
      refine o_val (v := .agg #[.slice (A0) (l0.length) (c0), .slice (B0) (f0.length) (e0)]) (x_loadS (l := [.slice (A0) (l0.length) (c0), .slice (B0) (f0.length) (e0)]) Tryz.isAgg30 Tryz.sizeOf30 rfl rfl (hF.cellsAll 1 rfl)) ?_
      refine o_call (rightT_c _ _ l0 f0 A0 B0 c0 e0 (hF.rep r0) (hF.rep q0)) (x_call1 en_14 rfl rfl) ?_
      rintro _ w ⟨ra0, rfl, hra0, hE⟩
      replace hF := hF.ext hE
      clear hE
      refine o_val (v := .bool (!(ra0))) (x_not rfl) ?_
      refine o_val (v := .bool (!(ra0))) (x_pickf rfl rfl) ?_
      refine o_val (v := .bool (!(ra0))) (x_move rfl) ?_
      refine o_split (d := 29) (b := !(ra0)) rfl (fun hg2 => ?_) (fun hg2 => ?_)
      ·
        refine o_off ?_
        refine o_off ?_
        refine o_off ?_
        refine o_val (v := .bool true) (x_pickt rfl rfl) ?_
        refine o_nil ?_
        refine e_seq ?_
        refine c_ift rfl ?_
        refine c_seq ?_
        refine c_region ?_
        refine o_val (v := .bool true) (x_move rfl) ?_
        refine o_val (v := .bool true) (x_assign rfl) ?_
        refine o_nil ?_
        refine e_seq ?_
        refine c_ret (e_ret (post_ret (res_1 (v := .bool true) rfl rfl) ?_))
        exact ⟨rfl, hF.same⟩
      ·
        refine o_val (v := .agg #[.slice (A1) (l1.length) (c1), .slice (B1) (f1.length) (e1)]) (x_loadS (l := [.slice (A1) (l1.length) (c1), .slice (B1) (f1.length) (e1)]) Tryz.isAgg30 Tryz.sizeOf30 rfl rfl (hF.cellsAll 0 rfl)) ?_
        refine o_call (rightT_c _ _ l1 f1 A1 B1 c1 e1 (hF.rep r1) (hF.rep q1)) (x_call1 en_14 rfl rfl) ?_
        rintro _ w ⟨ra1, rfl, hra1, hE⟩
        replace hF := hF.ext hE
        clear hE
        refine o_val (v := .bool (!(ra1))) (x_not rfl) ?_
        refine o_val (v := .bool (!(ra1))) (x_pickf rfl rfl) ?_
        refine o_nil ?_
        refine e_seq ?_
        refine c_split (d := 33) (b := !(ra1)) rfl (fun hc0 => ?_) (fun hc0 => ?_)
        ·
          refine c_ift rfl ?_
          refine c_seq ?_
          refine c_region ?_
          refine o_val (v := .bool true) (x_move rfl) ?_
          refine o_val (v := .bool true) (x_assign rfl) ?_
          refine o_nil ?_
          refine e_seq ?_
          refine c_ret (e_ret (post_ret (res_1 (v := .bool true) rfl rfl) ?_))
          exact ⟨rfl, hF.same⟩
        ·
          refine c_iff rfl ?_
          refine c_skip ?_
          refine e_seq ?_
          refine c_seq ?_
          refine c_region ?_
          refine o_val (v := .agg #[.slice (A0) (l0.length) (c0), .slice (B0) (f0.length) (e0)]) (x_loadS (l := [.slice (A0) (l0.length) (c0), .slice (B0) (f0.length) (e0)]) Tryz.isAgg30 Tryz.sizeOf30 rfl rfl (hF.cellsAll 1 rfl)) ?_
          refine o_val (w' := w) (v := .agg #[.slice (none) (0) (0), .slice (none) (0) (0)]) (by kernel_rfl) ?_
          have k0 := fewN_ok (ls := l0) (fs := f0) (m := 40) (by first | assumption | exact nb_right (by assumption))
          have hR0 : RightT l0 f0 := hra0.1 (by first | assumption | exact nb_right (by assumption))
          have k1 := fewN_ok (ls := l1) (fs := f1) (m := 40) (by first | assumption | exact nb_right (by assumption))
          have hR1 : RightT l1 f1 := hra1.1 (by first | assumption | exact nb_right (by assumption))
          have cn := cost_none (ls := l0) (fs := f0)
          have hra0_ := hR0.1
          have hrb0_ := hR1.1
          refine o_call (cost_yes _ (fun _ => True) _ l0 f0 A0 B0 c0 e0 (hF.rep r0) (hF.rep q0) [] [] none none 0 0 (Rep.nil_slice 0 (by omega) none) (Rep.nil_slice 0 (by omega) none) hR0 none_right) (x_call2 en_15 rfl rfl rfl) ?_
          rintro _ w ⟨rfl, hE⟩
          replace hF := hF.ext hE
          clear hE
          refine o_val (v := .tuple #[.int .i64 ((costT l0 f0 [] [] : Nat)), .int .i64 (0)]) (x_move rfl) ?_
          refine o_val (v := .int .i64 ((costT l0 f0 [] [] : Nat))) (x_extract rfl rfl) ?_
          refine o_val (v := .int .i64 (0)) (x_extract rfl rfl) ?_
          refine o_val (v := .int .i64 ((costT l0 f0 [] [] : Nat))) (x_assign rfl) ?_
          refine o_val (v := .int .i64 (0)) (x_assign rfl) ?_
          refine o_nil ?_
          refine e_seq ?_
          refine c_seq ?_
          refine c_region ?_
          refine o_val (w' := w) (v := .agg #[.slice (none) (0) (0), .slice (none) (0) (0)]) (by kernel_rfl) ?_
          refine o_val (v := .agg #[.slice (A0) (l0.length) (c0), .slice (B0) (f0.length) (e0)]) (x_loadS (l := [.slice (A0) (l0.length) (c0), .slice (B0) (f0.length) (e0)]) Tryz.isAgg30 Tryz.sizeOf30 rfl rfl (hF.cellsAll 1 rfl)) ?_
          refine o_call (cost_yes (fun _ => True) _ _ [] [] none none 0 0 (Rep.nil_slice 0 (by omega) none) (Rep.nil_slice 0 (by omega) none) l0 f0 A0 B0 c0 e0 (hF.rep r0) (hF.rep q0) none_right hR0) (x_call2 en_15 rfl rfl rfl) ?_
          rintro _ w ⟨rfl, hE⟩
          replace hF := hF.ext hE
          clear hE
          refine o_val (v := .tuple #[.int .i64 ((costT [] [] l0 f0 : Nat)), .int .i64 (0)]) (x_move rfl) ?_
          refine o_val (v := .int .i64 ((costT [] [] l0 f0 : Nat))) (x_extract rfl rfl) ?_
          refine o_val (v := .int .i64 (0)) (x_extract rfl rfl) ?_
          refine o_val (v := .int .i64 ((costT [] [] l0 f0 : Nat))) (x_assign rfl) ?_
          refine o_val (v := .int .i64 (0)) (x_assign rfl) ?_
          refine o_nil ?_
          refine e_seq ?_
          refine c_seq ?_
          refine c_region ?_
          refine o_val (v := .agg #[.slice (A0) (l0.length) (c0), .slice (B0) (f0.length) (e0)]) (x_loadS (l := [.slice (A0) (l0.length) (c0), .slice (B0) (f0.length) (e0)]) Tryz.isAgg30 Tryz.sizeOf30 rfl rfl (hF.cellsAll 1 rfl)) ?_
          refine o_val (v := .agg #[.slice (A1) (l1.length) (c1), .slice (B1) (f1.length) (e1)]) (x_loadS (l := [.slice (A1) (l1.length) (c1), .slice (B1) (f1.length) (e1)]) Tryz.isAgg30 Tryz.sizeOf30 rfl rfl (hF.cellsAll 0 rfl)) ?_
          refine o_call (cost_yes _ _ _ l0 f0 A0 B0 c0 e0 (hF.rep r0) (hF.rep q0) l1 f1 A1 B1 c1 e1 (hF.rep r1) (hF.rep q1) hR0 hR1) (x_call2 en_15 rfl rfl rfl) ?_
          rintro _ w ⟨rfl, hE⟩
          replace hF := hF.ext hE
          clear hE
          refine o_val (v := .tuple #[.int .i64 ((costT l0 f0 l1 f1 : Nat)), .int .i64 (0)]) (x_move rfl) ?_
          refine o_val (v := .int .i64 ((costT l0 f0 l1 f1 : Nat))) (x_extract rfl rfl) ?_
          refine o_val (v := .int .i64 (0)) (x_extract rfl rfl) ?_
          refine o_val (v := .int .i64 ((costT l0 f0 l1 f1 : Nat))) (x_assign rfl) ?_
          refine o_val (v := .int .i64 (0)) (x_assign rfl) ?_
          refine o_nil ?_
          refine e_seq ?_
          refine c_seq ?_
          refine c_region ?_
          refine o_val (v := .agg #[.slice (A0) (l0.length) (c0), .slice (B0) (f0.length) (e0)]) (x_loadS (l := [.slice (A0) (l0.length) (c0), .slice (B0) (f0.length) (e0)]) Tryz.isAgg30 Tryz.sizeOf30 rfl rfl (hF.cellsAll 1 rfl)) ?_
          refine o_val (v := .agg #[.slice (A1) (l1.length) (c1), .slice (B1) (f1.length) (e1)]) (x_loadS (l := [.slice (A1) (l1.length) (c1), .slice (B1) (f1.length) (e1)]) Tryz.isAgg30 Tryz.sizeOf30 rfl rfl (hF.cellsAll 0 rfl)) ?_
          refine o_call (costs_yes _ _ _ l0 f0 A0 B0 c0 e0 (hF.rep r0) (hF.rep q0) l1 f1 A1 B1 c1 e1 (hF.rep r1) (hF.rep q1) hR0 hR1) (x_call2 en_19 rfl rfl rfl) ?_
          rintro _ w ⟨pb, q, P, rfl, hGr, hP, hE⟩
          replace hF := hF.ext hE
          clear hE
          refine o_val (v := .tuple #[.slice (some ⟨pb, 0, none⟩) (l0.length) (l0.length), .int .i64 (0)]) (x_move rfl) ?_
          refine o_val (v := .slice (some ⟨pb, 0, none⟩) (l0.length) (l0.length)) (x_extract rfl rfl) ?_
          refine o_val (v := .int .i64 (0)) (x_extract rfl rfl) ?_
          refine o_val (v := .slice (some ⟨pb, 0, none⟩) (l0.length) (l0.length)) (x_assign rfl) ?_
          refine o_val (v := .int .i64 (0)) (x_assign rfl) ?_
          refine o_nil ?_
          refine e_seq ?_
          refine c_seq ?_
          refine c_seq ?_
          refine c_region ?_
          refine o_val (v := .int .i64 (0)) (x_move rfl) ?_
          refine o_val (v := .bool false) (run_false (x_neq rfl rfl) (by omega)) ?_
          refine o_val (v := .bool false) (x_move rfl) ?_
          refine o_val (v := .int .i64 (0)) (x_move rfl) ?_
          refine o_val (v := .bool false) (run_false (x_neq rfl rfl) (by omega)) ?_
          refine o_val (v := .bool false) (x_pickf rfl rfl) ?_
          refine o_val (v := .bool false) (x_move rfl) ?_
          refine o_val (v := .int .i64 (0)) (x_move rfl) ?_
          refine o_val (v := .bool false) (run_false (x_neq rfl rfl) (by omega)) ?_
          refine o_val (v := .bool false) (x_pickf rfl rfl) ?_
          refine o_val (v := .bool false) (x_move rfl) ?_
          refine o_val (v := .int .i64 (0)) (x_move rfl) ?_
          refine o_val (v := .bool false) (run_false (x_neq rfl rfl) (by omega)) ?_
          refine o_val (v := .bool false) (x_pickf rfl rfl) ?_
          refine o_val (v := .bool false) (x_move rfl) ?_
          refine o_val (v := .int .i64 ((costT l0 f0 [] [] : Nat))) (x_move rfl) ?_
          refine o_val (v := .pointer (some ⟨b1, 0, none⟩)) (x_fieldAddrO fa_30_0 rfl) ?_
          refine o_val (v := .slice (A0) (l0.length) (c0)) (x_load Tryz.isAgg22 rfl (hF.cell 1 rfl rfl)) ?_
          refine o_val (v := .int .i64 ((l0.length : Nat))) (x_len_slice Tryz.underlying22 rfl) ?_
          refine o_val (v := .bool false) (run_false (x_neq rfl rfl) (by omega)) ?_
          refine o_val (v := .bool false) (x_pickf rfl rfl) ?_
          refine o_val (v := .bool false) (x_move rfl) ?_
          refine o_val (v := .int .i64 ((costT [] [] l0 f0 : Nat))) (x_move rfl) ?_
          refine o_val (v := .int .i64 ((costT l0 f0 [] [] : Nat))) (x_move rfl) ?_
          refine o_val (v := .bool false) (run_false (x_neq rfl rfl) (by omega)) ?_
          refine o_val (v := .bool false) (x_pickf rfl rfl) ?_
          refine o_val (v := .bool false) (x_move rfl) ?_
          refine o_val (v := .slice (some ⟨pb, 0, none⟩) (l0.length) (l0.length)) (x_move rfl) ?_
          refine o_val (v := .int .i64 ((l0.length : Nat))) (x_len_slice Tryz.underlying44 rfl) ?_
          refine o_val (v := .int .i64 ((costT l0 f0 [] [] : Nat))) (x_move rfl) ?_
          refine o_val (v := .bool false) (run_false (x_neq rfl rfl) (by omega)) ?_
          refine o_val (v := .bool false) (x_pickf rfl rfl) ?_
          refine o_nil ?_
          refine e_seq ?_
          refine c_iff rfl ?_
          refine c_skip ?_
          refine e_seq ?_
          refine c_seq ?_
          refine c_seq ?_
          refine c_region ?_
          refine o_val (v := .int .i64 ((costT l0 f0 [] [] : Nat))) (x_move rfl) ?_
          refine o_val (v := .bool (decide (((costT l0 f0 [] [] : Nat) : Int) = (0 : Int)))) (x_eql rfl rfl) ?_
          refine o_val (v := .bool (decide (((costT l0 f0 [] [] : Nat) : Int) = (0 : Int)))) (x_move rfl) ?_
          refine o_splitd (d := 93) (p := ((costT l0 f0 [] [] : Nat) : Int) = (0 : Int)) rfl (fun hg3 => ?_) (fun hg3 => ?_)
          ·
            refine o_off ?_
            refine o_off ?_
            refine o_off ?_
            refine o_off ?_
            refine o_val (v := .bool true) (x_pickt rfl rfl) ?_
            refine o_val (v := .bool true) (x_move rfl) ?_
            refine o_off ?_
            refine o_off ?_
            refine o_off ?_
            refine o_off ?_
            refine o_off ?_
            refine o_off ?_
            refine o_off ?_
            refine o_val (v := .bool true) (x_pickt rfl rfl) ?_
            refine o_val (v := .bool true) (x_move rfl) ?_
            refine o_off ?_
            refine o_off ?_
            refine o_off ?_
            refine o_off ?_
            refine o_off ?_
            refine o_off ?_
            refine o_off ?_
            refine o_off ?_
            refine o_off ?_
            refine o_val (v := .bool true) (x_pickt rfl rfl) ?_
            refine o_nil ?_
            refine e_seq ?_
            refine c_ift rfl ?_
            refine c_seq ?_
            refine c_region ?_
            refine o_val (v := .bool true) (x_move rfl) ?_
            refine o_val (v := .bool true) (x_assign rfl) ?_
            refine o_nil ?_
            refine e_seq ?_
            refine c_ret (e_ret (post_ret (res_1 (v := .bool true) rfl rfl) ?_))
            exact ⟨rfl, hF.same⟩
          ·
            refine o_val (v := .pointer (some ⟨b2, 0, none⟩)) (x_fieldAddrO fa_30_0 rfl) ?_
            refine o_val (v := .slice (A1) (l1.length) (c1)) (x_load Tryz.isAgg22 rfl (hF.cell 0 rfl rfl)) ?_
            refine o_val (v := .int .i64 ((l1.length : Nat))) (x_len_slice Tryz.underlying22 rfl) ?_
            refine o_val (v := .bool (decide (((l1.length : Nat) : Int) = (0 : Int)))) (x_eql rfl rfl) ?_
            refine o_val (v := .bool (decide (((l1.length : Nat) : Int) = (0 : Int)))) (x_pickf rfl rfl) ?_
            refine o_val (v := .bool (decide (((l1.length : Nat) : Int) = (0 : Int)))) (x_move rfl) ?_
            refine o_splitd (d := 99) (p := ((l1.length : Nat) : Int) = (0 : Int)) rfl (fun hg4 => ?_) (fun hg4 => ?_)
            ·
              refine o_off ?_
              refine o_off ?_
              refine o_off ?_
              refine o_off ?_
              refine o_off ?_
              refine o_off ?_
              refine o_off ?_
              refine o_val (v := .bool true) (x_pickt rfl rfl) ?_
              refine o_val (v := .bool true) (x_move rfl) ?_
              refine o_off ?_
              refine o_off ?_
              refine o_off ?_
              refine o_off ?_
              refine o_off ?_
              refine o_off ?_
              refine o_off ?_
              refine o_off ?_
              refine o_off ?_
              refine o_val (v := .bool true) (x_pickt rfl rfl) ?_
              refine o_nil ?_
              refine e_seq ?_
              refine c_ift rfl ?_
              refine c_seq ?_
              refine c_region ?_
              refine o_val (v := .bool true) (x_move rfl) ?_
              refine o_val (v := .bool true) (x_assign rfl) ?_
              refine o_nil ?_
              refine e_seq ?_
              refine c_ret (e_ret (post_ret (res_1 (v := .bool true) rfl rfl) ?_))
              exact ⟨rfl, hF.same⟩
            ·
              refine o_val (v := .pointer (some ⟨b1, 1, none⟩)) (x_fieldAddrO fa_30_1 rfl) ?_
              refine o_val (v := .slice (B0) (f0.length) (e0)) (x_load Tryz.isAgg28 rfl (hF.cell 1 rfl rfl)) ?_
              refine o_val (v := .int .i64 ((costT l0 f0 [] [] : Nat))) (x_move rfl) ?_
              refine o_val (v := .int .i64 (((l0.length - 1) : Nat))) (x_sub rfl rfl (wrap_to (by omega) (by omega) (by omega))) ?_
              obtain ⟨ad5, hA5, hk5, hx5⟩ := q0.int_elem (i := (l0.length - 1)) (by omega)
              refine o_val (v := .pointer (some (ad5.add ((l0.length - 1) * 1)))) (x_indexAddrA (i := ((l0.length - 1) : Nat)) sl_28 rfl hA5 rfl (by omega) (by omega)) ?_
              refine o_val (v := .int .i64 (f0[(l0.length - 1)]'(by omega))) (x_load Tryz.isAgg3 rfl (hF.cell0 hk5)) ?_
              refine o_val (v := .bool (decide ((f0[(l0.length - 1)]'(by omega) : Int) ≠ (0 : Int)))) (x_neq rfl rfl) ?_
              refine o_val (v := .bool (decide ((f0[(l0.length - 1)]'(by omega) : Int) ≠ (0 : Int)))) (x_pickf rfl rfl) ?_
              refine o_val (v := .bool (decide ((f0[(l0.length - 1)]'(by omega) : Int) ≠ (0 : Int)))) (x_move rfl) ?_
              refine o_splitd (d := 108) (p := (f0[(l0.length - 1)]'(by omega) : Int) ≠ (0 : Int)) rfl (fun hg6 => ?_) (fun hg6 => ?_)
              ·
                refine o_off ?_
                refine o_off ?_
                refine o_off ?_
                refine o_off ?_
                refine o_off ?_
                refine o_off ?_
                refine o_off ?_
                refine o_off ?_
                refine o_off ?_
                refine o_val (v := .bool true) (x_pickt rfl rfl) ?_
                refine o_nil ?_
                refine e_seq ?_
                refine c_ift rfl ?_
                refine c_seq ?_
                refine c_region ?_
                refine o_val (v := .bool true) (x_move rfl) ?_
                refine o_val (v := .bool true) (x_assign rfl) ?_
                refine o_nil ?_
                refine e_seq ?_
                refine c_ret (e_ret (post_ret (res_1 (v := .bool true) rfl rfl) ?_))
                exact ⟨rfl, hF.same⟩
              ·
                refine o_val (v := .pointer (some ⟨b2, 1, none⟩)) (x_fieldAddrO fa_30_1 rfl) ?_
                refine o_val (v := .slice (B1) (f1.length) (e1)) (x_load Tryz.isAgg28 rfl (hF.cell 0 rfl rfl)) ?_
                refine o_val (v := .pointer (some ⟨b2, 1, none⟩)) (x_fieldAddrO fa_30_1 rfl) ?_
                refine o_val (v := .slice (B1) (f1.length) (e1)) (x_load Tryz.isAgg28 rfl (hF.cell 0 rfl rfl)) ?_
                refine o_val (v := .int .i64 ((f1.length : Nat))) (x_len_slice Tryz.underlying28 rfl) ?_
                refine o_val (v := .int .i64 (((l1.length - 1) : Nat))) (x_sub rfl rfl (wrap_to (by omega) (by omega) (by omega))) ?_
                obtain ⟨ad7, hA7, hk7, hx7⟩ := q1.int_elem (i := (l1.length - 1)) (by omega)
                refine o_val (v := .pointer (some (ad7.add ((l1.length - 1) * 1)))) (x_indexAddrA (i := ((l1.length - 1) : Nat)) sl_28 rfl hA7 rfl (by omega) (by omega)) ?_
                refine o_val (v := .int .i64 (f1[(l1.length - 1)]'(by omega))) (x_load Tryz.isAgg3 rfl (hF.cell0 hk7)) ?_
                refine o_val (v := .bool (decide ((f1[(l1.length - 1)]'(by omega) : Int) ≠ (0 : Int)))) (x_neq rfl rfl) ?_
                refine o_val (v := .bool (decide ((f1[(l1.length - 1)]'(by omega) : Int) ≠ (0 : Int)))) (x_pickf rfl rfl) ?_
                refine o_nil ?_
                refine e_seq ?_
                refine c_splitd (d := 118) (p := (f1[(l1.length - 1)]'(by omega) : Int) ≠ (0 : Int)) rfl (fun hc2 => ?_) (fun hc2 => ?_)
                ·
                  refine c_ift rfl ?_
                  refine c_seq ?_
                  refine c_region ?_
                  refine o_val (v := .bool true) (x_move rfl) ?_
                  refine o_val (v := .bool true) (x_assign rfl) ?_
                  refine o_nil ?_
                  refine e_seq ?_
                  refine c_ret (e_ret (post_ret (res_1 (v := .bool true) rfl rfl) ?_))
                  exact ⟨rfl, hF.same⟩
                ·
                  refine c_iff rfl ?_
                  refine c_skip ?_
                  refine e_seq ?_
                  refine c_seq ?_
                  have htd := td_root l0 f0 l1 f1 hR0 hR1 (by omega) (by omega) (by rw [getD_in (by omega)]; omega) (by rw [getD_in (by omega)]; omega)
                  have hpp : P ((l0.length - 1)) ((l1.length - 1)) = ((costT l0 f0 l1 f1 : Nat) : Int) := by rw [hP _ _ (by omega) (by omega), htd]
                  refine c_drawF [] (.free 0 (.free 1 (.free 2 (.free 3 (.free 4 (.free 5 (.free 6 (.free 7 (.free 8 (.free 9 (.free 10 (.free 11 (.free 12 (.free 13 (.free 14 (.free 15 (.free 16 (.free 17 (.free 18 (.free 19 (.free 20 (.free 21 (.free 22 (.free 23 (.free 24 (.free 25 (.free 26 (.free 27 (.free 28 .nil))))))))))))))))))))))))))))) (by kernel_rfl) hF (by kernel_rfl) (by kernel_rfl) ?_
                  clear hF; intro w hF hE
                  replace hGr := hGr.ext hE
                  clear hE
                  refine ⟨fun wq => FR w0 [] [(b2, .cells #[.slice (A1) (l1.length) (c1), .slice (B1) (f1.length) (e1)] 30), (b1, .cells #[.slice (A0) (l0.length) (c0), .slice (B0) (f0.length) (e0)] 30)] wq ∧ Grid2 wq pb l0.length l1.length 28 3 q P, ⟨hF, hGr⟩, ?_⟩
                  refine f_free rfl (v := .bool true) (fun w hC => x_move rfl) ?_
                  refine f_free rfl (v := .bool true) (fun w hC => x_move rfl) ?_
                  refine f_free rfl (v := .slice (some ⟨pb, 0, none⟩) (l0.length) (l0.length)) (fun w hC => x_move rfl) ?_
                  refine f_free rfl (v := .int .i64 ((costT l0 f0 [] [] : Nat))) (fun w hC => x_move rfl) ?_
                  refine f_free rfl (v := .int .i64 (((l0.length - 1) : Nat))) (fun w hC => x_sub rfl rfl (wrap_to (by omega) (by omega) (by omega))) ?_
                  refine f_free rfl (v := .pointer (some ⟨pb, (l0.length - 1), none⟩)) (fun w hC => x_indexAddrO (i := (((l0.length - 1) : Nat) : Int)) ((l0.length - 1)) sl_44 rfl rfl (by omega) (by omega) (by omega)) ?_
                  refine f_free rfl (v := .slice (some ⟨q ((l0.length - 1)), 0, none⟩) (l1.length) (l1.length)) (fun w hC => x_load Tryz.isAgg28 rfl (hC.2.rowCell (i := (l0.length - 1)) (by omega))) ?_
                  refine f_free rfl (v := .int .i64 ((l1.length : Nat))) (fun w hC => x_len_slice Tryz.underlying28 rfl) ?_
                  refine f_free rfl (v := .pointer (some ⟨b2, 0, none⟩)) (fun w hC => x_fieldAddrO fa_30_0 rfl) ?_
                  refine f_free rfl (v := .slice (A1) (l1.length) (c1)) (fun w hC => x_load Tryz.isAgg22 rfl (hC.1.cell 0 rfl rfl)) ?_
                  refine f_free rfl (v := .int .i64 ((l1.length : Nat))) (fun w hC => x_len_slice Tryz.underlying22 rfl) ?_
                  refine f_free rfl (v := .bool true) (fun w hC => run_true (x_eql rfl rfl) (by omega)) ?_
                  refine f_free rfl (v := .bool true) (fun w hC => x_pickt rfl rfl) ?_
                  refine f_free rfl (v := .bool true) (fun w hC => x_move rfl) ?_
                  refine f_free rfl (v := .slice (some ⟨pb, 0, none⟩) (l0.length) (l0.length)) (fun w hC => x_move rfl) ?_
                  refine f_free rfl (v := .int .i64 ((costT l0 f0 [] [] : Nat))) (fun w hC => x_move rfl) ?_
                  refine f_free rfl (v := .int .i64 (((l0.length - 1) : Nat))) (fun w hC => x_sub rfl rfl (wrap_to (by omega) (by omega) (by omega))) ?_
                  refine f_free rfl (v := .pointer (some ⟨pb, (l0.length - 1), none⟩)) (fun w hC => x_indexAddrO (i := (((l0.length - 1) : Nat) : Int)) ((l0.length - 1)) sl_44 rfl rfl (by omega) (by omega) (by omega)) ?_
                  refine f_free rfl (v := .slice (some ⟨q ((l0.length - 1)), 0, none⟩) (l1.length) (l1.length)) (fun w hC => x_load Tryz.isAgg28 rfl (hC.2.rowCell (i := (l0.length - 1)) (by omega))) ?_
                  refine f_free rfl (v := .pointer (some ⟨b2, 0, none⟩)) (fun w hC => x_fieldAddrO fa_30_0 rfl) ?_
                  refine f_free rfl (v := .slice (A1) (l1.length) (c1)) (fun w hC => x_load Tryz.isAgg22 rfl (hC.1.cell 0 rfl rfl)) ?_
                  refine f_free rfl (v := .int .i64 ((l1.length : Nat))) (fun w hC => x_len_slice Tryz.underlying22 rfl) ?_
                  refine f_free rfl (v := .int .i64 (((l1.length - 1) : Nat))) (fun w hC => x_sub rfl rfl (wrap_to (by omega) (by omega) (by omega))) ?_
                  refine f_free rfl (v := .pointer (some ⟨q ((l0.length - 1)), (l1.length - 1), none⟩)) (fun w hC => x_indexAddrO (i := (((l1.length - 1) : Nat) : Int)) ((l1.length - 1)) sl_28 rfl rfl (by omega) (by omega) (by omega)) ?_
                  refine f_free rfl (v := .int .i64 ((costT l0 f0 l1 f1 : Nat))) (fun w hC => x_load Tryz.isAgg3 rfl (by rw [← hpp]; exact hC.2.cell (i := (l0.length - 1)) (j := (l1.length - 1)) (by omega) (by omega))) ?_
                  refine f_free rfl (v := .int .i64 ((costT l0 f0 l1 f1 : Nat))) (fun w hC => x_move rfl) ?_
                  refine f_free rfl (v := .bool true) (fun w hC => run_true (x_eql rfl rfl) (by omega)) ?_
                  refine f_free rfl (v := .bool true) (fun w hC => x_pickt rfl rfl) ?_
                  refine f_free rfl (v := .bool true) (fun w hC => x_assign rfl) ?_
                  refine d_nil ?_
                  refine e_seq ?_
                  refine c_ret (e_ret (post_ret (res_1 (v := .bool true) rfl rfl) ?_))
                  exact ⟨rfl, hF.same⟩
  ·
    refine o_off ?_
    refine o_off ?_
    refine o_val (v := .bool false) (x_pickf rfl rfl) ?_
    refine o_val (v := .bool false) (x_assign rfl) ?_
    refine o_nil ?_
    refine e_seq ?_
    refine c_seq ?_
    refine c_seq ?_
    refine c_region ?_
    refine o_val (v := .bool false) (x_move rfl) ?_
    refine o_val (v := .bool true) (x_not (b := false) rfl) ?_
    refine o_val (v := .bool true) (x_move rfl) ?_
    refine o_off ?_
    refine o_off ?_
    refine o_off ?_
    refine o_val (v := .bool true) (x_pickt rfl rfl) ?_
    refine o_val (v := .bool true) (x_move rfl) ?_
    refine o_off ?_
    refine o_off ?_
    refine o_off ?_
    refine o_val (v := .bool true) (x_pickt rfl rfl) ?_
    refine o_nil ?_
    refine e_seq ?_
    refine c_ift rfl ?_
    refine c_seq ?_
    refine c_region ?_
    refine o_val (v := .bool true) (x_move rfl) ?_
    refine o_val (v := .bool true) (x_assign rfl) ?_
    refine o_nil ?_
    refine e_seq ?_
    refine c_ret (e_ret (post_ret (res_1 (v := .bool true) rfl rfl) ?_))
    exact ⟨rfl, hF.same⟩
end Go.Scarf
