/- A part of the proof. -/
import Derived.Test.YtonoededmmohhaaGreatDoorE14
import Derived.Test.YtonoededmmohhaaGreatDoorE12
set_option linter.all false
namespace Go.Scarf
open Go.RowKit Go.Proofs
theorem val_small {x : Tree} (h : rightB x = true) (hm : maxL x ≤ 16777216) (m : Bool) (ind d : Nat) (hi : ind ≤ 8) (hd : d ≤ 32) : (valS m ind x d).length ≤ 4398046511104 := by
  have h1 := right_depth h
  have h2 := val_bound m ind (maxL x) 64 x d (Nat.le_refl _) (by omega)
  have h3 : sizeT x ≤ 4096 := open_size (right_open h)
  have h4 : ind * 64 ≤ 8 * 64 := Nat.mul_le_mul_right _ hi
  have h5 : sizeT x * (12 * maxL x + 40 + 2 * (ind * 64)) ≤ 4096 * (12 * 16777216 + 40 + 2 * 512) := Nat.mul_le_mul h3 (by omega)
  omega
theorem rtext_r (x : Tree) (m : Bool) (ind d : Nat) (S : Nat → Prop) (w0 : World) (cs : List Value) (hR : Rep S w0 (treeD x) cs) (h : rightB x = true) (hm : maxL x ≤ 16777216) (hi : ind ≤ 8) (hd : d ≤ 32) :
    Calls Tryz.prog 51 #[.agg cs.toArray, .int .i64 (izOf m ind), .int .i64 (d : Nat)] w0 (Ret fun v w' => v = .string (bs (valS m ind x d)) ∧ Same [] w0 w') := by
  have h1 := right_depth h
  have h2 : allT rnodeB x = true := by
    have h3 := h
    unfold rightB at h3
    rw [Bool.and_eq_true] at h3
    exact h3.2
  have h4 : ind * (d + depthT x) ≤ 8 * 64 := Nat.mul_le_mul hi (by omega)
  exact rtext_all x m ind d S w0 cs hR h2 hm (by omega) (by omega) (val_small h hm m ind d hi hd)
set_option maxHeartbeats 1000000 in
set_option maxRecDepth 10000 in
theorem rcanon_c (x : Tree) (hsz : sizeT x ≤ 1000000000) (hm : maxL x ≤ 16777216) (S : Nat → Prop) (w0 : World) (cs : List Value) (hR : Rep S w0 (treeD x) cs) : Calls Tryz.prog 32 #[.agg cs.toArray] w0 (Ret fun v w' => v = .tuple #[.string (bs (compS (sortedV x))), .int .i64 (compE (sortedV x))] ∧ Same [] w0 w') := by
 have hl : cs.length = 4 := hR.length.trans (size_treeD x)
 have ho := hR.one_
 refine calls_start Tryz.func32 rfl Tryz.ntmps32 (Nat.le_of_ble_eq_true rfl) (args_1 _) ?_
 have hF := FR.start w0 []
 refine c_seq (c_region ?_)
 refine o_box (v := .agg (List.toArray cs)) (cs := (List.toArray cs)) hF rfl rfl ?_
 clear hF; rintro b1 w hb1 hF -
 refine o_val (x_assign rfl) (o_val (x_assign rfl) (o_nil (e_seq (c_seq (c_region (o_val (v := .agg (List.toArray cs)) (x_loadS (l := cs) Tryz.isAgg32 Tryz.sizeOf32 rfl hl (hF.cellsAll 0 rfl)) ?_))))))
 refine o_call (rright_t x hsz (by omega) _ _ cs (hF.rep hR)) (x_call1 en_30 rfl rfl) ?_
 rintro _ w ⟨rfl, hE⟩
 replace hF := hF.ext hE
 clear hE
 refine o_val (x_assign rfl) (o_nil (e_seq (c_seq (c_seq (c_region (o_val (x_move rfl) (o_val (v := .bool (!(rightB x))) (x_not rfl) (o_nil (e_seq ?_)))))))))
 refine c_split (d := 8) (b := !(rightB x)) rfl (fun hc0 => ?_) (fun hc0 => ?_)
 refine c_ift rfl (c_seq (c_region (o_val (x_assign rfl) (o_val (x_assign rfl) (o_nil (e_seq ?_))))))
 refine c_ret (e_ret (post_ret (res_2 (v := .string (bs ([]))) (x := .int .i64 (1)) rfl rfl rfl) ?_))
 exact ⟨by rw [compS, compE, right_sorted, if_neg (by simpa using hc0), if_neg (by simpa using hc0)], hF.same⟩
 refine c_iff rfl (c_skip (e_seq (c_seq (c_region (o_val (v := .agg (List.toArray cs)) (x_loadS (l := cs) Tryz.isAgg32 Tryz.sizeOf32 rfl hl (hF.cellsAll 0 rfl)) ?_)))))
 refine o_call (rsortedV_c x hsz (by omega) _ _ cs (hF.rep hR)) (x_call1 en_52 rfl rfl) ?_
 rintro _ w ⟨c2, rfl, hRt, hE⟩
 have hlc2 : c2.length = 4 := hRt.length.trans (size_treeD _)
 have hoc2 := hRt.one_
 replace hF := hF.ext hE
 clear hE
 refine o_call (rtext_r (sortedV x) false 0 0 _ _ c2 hRt (by rw [right_sorted]; simpa using hc0) (Nat.le_trans (maxL_sorted x) hm) (by omega) (by omega)) (x_call3 en_51 rfl rfl rfl rfl) ?_
 rintro _ w ⟨rfl, hE⟩
 replace hF := hF.ext hE
 clear hE
 refine o_val (x_assign rfl) (o_val (x_assign rfl) (o_nil (e_seq ?_)))
 refine c_ret (e_ret (post_ret (res_2 (v := .string (bs (valS false 0 (sortedV x) 0))) (x := .int .i64 (0)) rfl rfl rfl) ?_))
 exact ⟨by rw [compS, compE, right_sorted, if_pos (by simpa using hc0), if_pos (by simpa using hc0)], hF.same⟩
end Go.Scarf
