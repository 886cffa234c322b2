/- A part of the proof. -/
import Derived.Test.YtonoededmmohhaaGreatDoorY8
set_option linter.all false
namespace Go.Scarf
open Go.RowKit Go.Proofs
theorem rows3 {S : Nat → Prop} {w : World} {l0 l1 l2 : List Str} {u0 u1 u2 : Value} (h0 : Rep S w (strsD l0) [u0]) (h1 : Rep S w (strsD l1) [u1]) (h2 : Rep S w (strsD l2) [u2]) : RepL S w ([l0, l1, l2].map strsD) [u0, u1, u2] := RepL.cons_mk h0 (RepL.cons_mk h1 (RepL.cons_mk h2 RepL.nil_mk))
theorem flat3 {l0 l1 l2 : List Str} (h0 : shortL l0 = true) (h1 : shortL l1 = true) (h2 : shortL l2 = true) : [l0, l1, l2].flatten.length ≤ 1000000 ∧ ∀ s ∈ unionS [l0, l1, l2], s.length ≤ 9223372036854775807 := by
  have a := shortL_ok h0
  have b := shortL_ok h1
  have c := shortL_ok h2
  refine ⟨by simp; omega, fun s hs => ?_⟩
  unfold unionS at hs
  rw [foldU_mem] at hs
  rcases hs with hs | hs
  · cases hs
  · simp only [List.flatten_cons, List.flatten_nil, List.append_nil, List.mem_append] at hs
    rcases hs with hs | hs | hs
    · have := a.2 s hs; omega
    · have := b.2 s hs; omega
    · have := c.2 s hs; omega
set_option maxHeartbeats 4000000 in
set_option maxRecDepth 10000 in
theorem keyedUnions_w (w0 : World) (hG : Gl w0) (l0 : List Str) (A0 : Option Addr) (c0 : Nat) (r0 : Rep (fun _ => True) w0 (strsD l0) [.slice A0 l0.length c0]) (l1 : List Str) (A1 : Option Addr) (c1 : Nat) (r1 : Rep (fun _ => True) w0 (strsD l1) [.slice A1 l1.length c1]) (l2 : List Str) (A2 : Option Addr) (c2 : Nat) (r2 : Rep (fun _ => True) w0 (strsD l2) [.slice A2 l2.length c2]) : Calls Tryz.prog 3 #[.slice A0 l0.length c0, .slice A1 l1.length c1, .slice A2 l2.length c2] w0 (Ret fun v w' => v = .bool true ∧ Same [] w0 w') := by
 refine calls_start Tryz.func3 rfl Tryz.ntmps3 (Nat.le_of_ble_eq_true rfl) (args_3 _ _ _) ?_
 have hF := FR.start w0 []
 refine c_seq (c_region (o_val (x_assign rfl) (o_nil (e_seq (c_seq (c_region ?_))))))
 refine o_call (small19_c _ (hG.ext hF.same)) (x_call0 en_6 rfl) ?_
 rintro _ w ⟨rfl, hE⟩
 replace hF := hF.ext hE
 clear hE
 refine o_val (x_assign rfl) (o_nil (e_seq (c_seq (c_region (o_val (x_move rfl) ?_)))))
 refine o_call (shortL_c l0 A0 c0 _ _ (hF.rep r0)) (x_call1 en_7 rfl rfl) ?_
 rintro _ w ⟨rfl, hE⟩
 replace hF := hF.ext hE
 clear hE
 refine o_val (x_move rfl) ?_
 refine o_split (d := 12) (b := shortL l0) rfl (fun hg0 => ?_) (fun hg0 => ?_)
 refine o_val (x_move rfl) ?_
 refine o_call (shortL_c l1 A1 c1 _ _ (hF.rep r1)) (x_call1 en_7 rfl rfl) ?_
 rintro _ w ⟨rfl, hE⟩
 replace hF := hF.ext hE
 clear hE
 refine o_val (x_pickt rfl rfl) (o_val (x_move rfl) ?_)
 refine o_split (d := 16) (b := shortL l1) rfl (fun hg1 => ?_) (fun hg1 => ?_)
 refine o_val (x_move rfl) ?_
 refine o_call (shortL_c l2 A2 c2 _ _ (hF.rep r2)) (x_call1 en_7 rfl rfl) ?_
 rintro _ w ⟨rfl, hE⟩
 replace hF := hF.ext hE
 clear hE
 refine o_val (x_pickt rfl rfl) (o_val (x_assign rfl) (o_nil (e_seq (c_seq (c_region (o_val (x_move rfl) (o_val (x_move rfl) (o_val (x_move rfl) (o_val (v := .bool (!(shortL l2))) (x_not rfl) (o_val (x_move rfl) ?_))))))))))
 refine o_split (d := 24) (b := !(shortL l2)) rfl (fun hg2 => ?_) (fun hg2 => ?_)
 refine o_off (o_off (o_off (o_off (o_off (o_off (o_off (o_off (o_off (o_off (o_off (o_off (o_off (o_off ?_)))))))))))))
 refine o_off (o_off (o_val (x_pickt rfl rfl) (o_val (x_pickt rfl rfl) (o_val (x_assign rfl) (o_nil (e_seq ?_))))))
 refine c_ret (e_ret (post_ret (res_1 (v := .bool true) rfl rfl) ?_))
 exact ⟨rfl, hF.same⟩
 refine o_val (x_move rfl) (o_val (x_move rfl) (o_val (x_move rfl) ?_))
 refine o_new (v := fun b => .slice (some ⟨b, 0, none⟩) 3 3) hF (x_buildSlice (cs := #[.slice (A0) (l0.length) (c0), .slice (A1) (l1.length) (c1), .slice (A2) (l2.length) (c2)]) Tryz.underlying28 Tryz.sizeOf22 Tryz.zeroValue22 (by decide) (by decide) (by kernel_rfl)) ?_
 clear hF; rintro b1 w hb1 hF -
 obtain ⟨hfl, hul⟩ := flat3 (l0 := l0) (l1 := l1) (l2 := l2) (by simp_all) (by simp_all) (by simp_all)
 refine o_call (union_c [l0, l1, l2] _ _ _ _ (show Rep (fun _ => True) _ (.slice ([l0, l1, l2].map strsD)) [.slice (some ⟨b1, 0, none⟩) 3 3] from Rep.slice_mk (by simp) (Nat.le_refl 3) (by omega) (fun _ => ⟨_, rfl, _, fun j hj => ⟨hF.cellsAll 0 rfl j hj, trivial⟩, rows3 (hF.rep r0) (hF.rep r1) (hF.rep r2)⟩)) hfl hul) (x_call1 en_9 rfl rfl) ?_
 rintro _ w ⟨A_u, c_u, rfl, hU_, hE⟩
 have hu : Rep (fun _ => True) w (strsD (unionS [l0, l1, l2])) [.slice A_u (unionS [l0, l1, l2]).length c_u] := hU_.weaken fun _ _ _ => trivial
 replace hF := hF.ext hE
 clear hE hU_
 refine o_val (x_move rfl) (o_val (x_move rfl) (o_val (x_move rfl) ?_))
 refine o_new (v := fun b => .slice (some ⟨b, 0, none⟩) 3 3) hF (x_buildSlice (cs := #[.slice (A0) (l0.length) (c0), .slice (A1) (l1.length) (c1), .slice (A2) (l2.length) (c2)]) Tryz.underlying28 Tryz.sizeOf22 Tryz.zeroValue22 (by decide) (by decide) (by kernel_rfl)) ?_
 clear hF; intro b2 w hb2 hF hE
 replace hu := hu.ext hE
 clear hE
 refine o_call (runion_c [l0, l1, l2] _ _ _ _ (show Rep (fun _ => True) _ (.slice ([l0, l1, l2].map strsD)) [.slice (some ⟨b2, 0, none⟩) 3 3] from Rep.slice_mk (by simp) (Nat.le_refl 3) (by omega) (fun _ => ⟨_, rfl, _, fun j hj => ⟨hF.cellsAll 0 rfl j hj, trivial⟩, rows3 (hF.rep r0) (hF.rep r1) (hF.rep r2)⟩)) hfl hul) (x_call1 en_10 rfl rfl) ?_
 rintro _ w ⟨A_v, c_v, rfl, hU_, hE⟩
 have hv : Rep (fun _ => True) w (strsD (unionS [l0, l1, l2])) [.slice A_v (unionS [l0, l1, l2]).length c_v] := hU_.weaken fun _ _ _ => trivial
 replace hu := hu.ext hE
 replace hF := hF.ext hE
 clear hE hU_
 refine o_call (ret_eq (v' := .bool true) (same07_c (unionS [l0, l1, l2]) (unionS [l0, l1, l2]) _ _ _ _ _ _ _ hu hv) (congrArg Value.bool (decide_eq_true rfl))) (x_call2 en_8 rfl rfl rfl) ?_
 rintro _ w ⟨rfl, hE⟩
 replace hF := hF.ext hE
 replace hu := hu.ext hE
 replace hv := hv.ext hE
 clear hE
 refine o_val (x_move rfl) ?_
 refine o_call (union_c [] none 0 (fun _ => True) _ (Rep.nil_slice 0 (by omega) none) (by simp) (by simp [unionS])) (x_call1 en_9 rfl rfl) ?_
 rintro _ w ⟨A_n, c_n, rfl, hN_, hE⟩
 replace hF := hF.ext hE
 clear hE hN_
 refine o_val (v := .int .i64 (0)) (x_len_slice Tryz.underlying22 rfl) (o_val (v := .bool true) (run_true (x_eql rfl rfl) rfl) (o_val (x_pickt rfl rfl) (o_val (x_pickf rfl rfl) (o_val (x_pickt rfl rfl) (o_val (x_assign rfl) (o_nil (e_seq ?_)))))))
 refine c_ret (e_ret (post_ret (res_1 (v := .bool true) rfl rfl) ?_))
 exact ⟨rfl, hF.same⟩
 refine o_off (o_off (o_val (x_pickf rfl rfl) (o_val (x_assign rfl) (o_nil (e_seq (c_seq (c_region (o_val (x_move rfl) (o_val (x_move rfl) (o_val (x_move rfl) (o_val (v := .bool true) (x_not (b := false) rfl) (o_val (x_move rfl) (o_off ?_)))))))))))))
 refine o_off (o_off (o_off (o_off (o_off (o_off (o_off (o_off (o_off (o_off (o_off (o_off (o_off (o_off ?_)))))))))))))
 refine o_off (o_val (x_pickt rfl rfl) (o_val (x_pickt rfl rfl) (o_val (x_assign rfl) (o_nil (e_seq ?_)))))
 refine c_ret (e_ret (post_ret (res_1 (v := .bool true) rfl rfl) ?_))
 exact ⟨rfl, hF.same⟩
 refine o_off (o_off (o_val (x_pickf rfl rfl) (o_val (x_move rfl) (o_off (o_off (o_val (x_pickf rfl rfl) (o_val (x_assign rfl) (o_nil (e_seq (c_seq (c_region (o_val (x_move rfl) (o_val (x_move rfl) ?_)))))))))))))
 refine o_val (x_move rfl) (o_val (v := .bool true) (x_not (b := false) rfl) (o_val (x_move rfl) (o_off (o_off (o_off (o_off (o_off (o_off (o_off (o_off (o_off (o_off (o_off ?_)))))))))))))
 refine o_off (o_off (o_off (o_off (o_off (o_val (x_pickt rfl rfl) (o_val (x_pickt rfl rfl) (o_val (x_assign rfl) (o_nil (e_seq ?_)))))))))
 refine c_ret (e_ret (post_ret (res_1 (v := .bool true) rfl rfl) ?_))
 exact ⟨rfl, hF.same⟩
end Go.Scarf
