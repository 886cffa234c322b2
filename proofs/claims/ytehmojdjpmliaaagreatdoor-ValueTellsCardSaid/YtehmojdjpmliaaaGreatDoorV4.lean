/- A part of the proof. -/
import Derived.Test.YtehmojdjpmliaaaGreatDoorSp
import Derived.Test.YtehmojdjpmliaaaGreatDoorE9
import Derived.Test.YtehmojdjpmliaaaGreatDoorV1
import Derived.Test.YtehmojdjpmliaaaGreatDoorX2
set_option linter.all false
namespace Go.Scarf
open Go.RowKit Go.Proofs
theorem getX_c (x : Tree) (key : Str) (hsz : sizeT x ≤ 1000000000) (S : Nat → Prop) (w0 : World) (cs : List Value) (hR : Rep S w0 (treeD x) cs) (hk : okT x) (hG : Gl w0) : Calls Tryz.prog 28 #[.agg cs.toArray, .string (bs key)] w0 (Ret fun v w' => ∃ ct : List Value, v = .tuple #[.agg ct.toArray, .bool (getV x key).2] ∧ Rep (Btw w0 w') w' (treeD (getV x key).1) ct ∧ Same [] w0 w') := by
  obtain ⟨k, t, ks, xs⟩ := x
  exact getV_c k t ks xs key hsz S w0 cs hR hk hG
theorem rgetX_c (x : Tree) (key : Str) (hsz : sizeT x ≤ 1000000000) (hm : maxL x ≤ 1073741824) (S : Nat → Prop) (w0 : World) (cs : List Value) (hR : Rep S w0 (treeD x) cs) : Calls Tryz.prog 29 #[.agg cs.toArray, .string (bs key)] w0 (Ret fun v w' => ∃ ct : List Value, v = .tuple #[.agg ct.toArray, .bool (getV x key).2] ∧ Rep (Btw w0 w') w' (treeD (getV x key).1) ct ∧ Same [] w0 w') := by
  obtain ⟨k, t, ks, xs⟩ := x
  exact rgetV_c k t ks xs key hsz hm S w0 cs hR
theorem few_right {b : Bool} (h : (!b) = false) : b = true := by simpa using h
theorem text_len {x : Num} (h : rightN x = true) : (textN x).length ≤ 1100 := by
  have hr := rightN_len h
  have hi := Lib.itoa_length_le x.exp (by omega) (by omega)
  unfold textN
  split
  · simp
  split
  · simp
  · rw [List.length_append]
    have h1 : (if x.neg = true then 45 :: x.digits else x.digits).length ≤ 1001 := by split <;> (try simp) <;> omega
    have h2 : (if x.exp ≠ 0 then 101 :: Lib.itoa x.exp else []).length ≤ 22 := by split <;> (try simp) <;> omega
    omega
theorem flat_rep {S : Nat → Prop} {w : World} {k : Int} {s : Str} (hk : -9223372036854775808 ≤ k ∧ k ≤ 9223372036854775807) (h : s.length ≤ 9223372036854775807) : Rep S w (treeD (.node k s [] [])) [.int .i64 k, .string (bs s), .slice none 0 0, .slice none 0 0] :=
  Rep.tree_mk hk h (Rep.nil_slice 0 (by omega) none) (Rep.nil_slice 0 (by omega) none)
set_option maxHeartbeats 4000000 in
set_option maxRecDepth 10000 in
theorem valueTells_w (w0 : World) (hG : Gl w0) (x : Tree) (cx : List Value) (rx : Rep (fun _ => True) w0 (treeD x) cx) (key : Str) (hkey : key.length ≤ 9223372036854775807) (n : Int) (hn1 : -9223372036854775808 ≤ n) (hn2 : n ≤ 9223372036854775807) : Calls Tryz.prog 7 #[.agg cx.toArray, .string (bs key), .int .i64 n] w0 (Ret fun v w' => v = .bool true ∧ Same [] w0 w') := by
  have hlcx : cx.length = 4 := rx.length.trans (size_treeD x)
  have hocx := rx.one_
  have hnt : (textN (ofN n)).length ≤ 9223372036854775807 := by have := text_len (x := ofN n) (parseN_right _); omega
  refine calls_start Tryz.func7 rfl Tryz.ntmps7 (Nat.le_of_ble_eq_true rfl) (args_3 _ _ _) ?_
  have hF := FR.start w0 []
  refine c_seq ?_
  refine c_region ?_
  refine o_box (v := .agg (List.toArray cx)) (cs := (List.toArray cx)) hF rfl rfl ?_
  clear hF; intro b1 w hb1 hF hE
  clear hE
  refine o_val (v := .bool false) (x_assign rfl) ?_
  refine o_nil ?_
  refine e_seq ?_
  refine c_seq ?_
  refine c_region ?_
  refine o_call (small_c _ (hG.ext hF.same)) (x_call0 en_27 rfl) ?_
  rintro _ w ⟨rfl, hE⟩
  replace hF := hF.ext hE
  clear hE
  refine o_val (v := .bool true) (x_assign rfl) ?_
  refine o_nil ?_
  refine e_seq ?_
  refine c_seq ?_
  refine c_region ?_
  refine o_val (v := .agg (List.toArray cx)) (x_loadS (l := cx) Tryz.isAgg25 Tryz.sizeOf25 rfl hlcx (hF.cellsAll 0 rfl)) ?_
  refine o_call (few_v x 500 (by omega) (by omega) _ _ cx (hF.rep rx)) (x_call2 en_14 rfl rfl rfl) ?_
  rintro _ w ⟨rfl, hE⟩
  replace hF := hF.ext hE
  clear hE
  refine o_val (v := .bool (fewB x 500)) (x_assign rfl) ?_
  refine o_nil ?_
  refine e_seq ?_
  refine c_seq ?_
  refine c_seq ?_
  refine c_region ?_
  refine o_val (v := .bool (fewB x 500)) (x_move rfl) ?_
  refine o_val (v := .bool (!(fewB x 500))) (x_not rfl) ?_
  refine o_val (v := .bool (!(fewB x 500))) (x_move rfl) ?_
  refine o_split (d := 20) (b := !(fewB x 500)) rfl (fun hg0 => ?_) (fun hg0 => ?_)
  ·
    refine o_off ?_
    refine o_off ?_
    refine o_off ?_
    refine o_val (v := .bool true) (x_pickt rfl rfl) ?_
    refine o_nil ?_
    refine e_seq ?_
    refine c_ift rfl ?_
    refine c_seq ?_
    refine c_region ?_
    refine o_val (v := .bool true) (x_move rfl) ?_
    refine o_val (v := .bool true) (x_assign rfl) ?_
    refine o_nil ?_
    refine e_seq ?_
    refine c_ret (e_ret (post_ret (res_1 (v := .bool true) rfl rfl) ?_))
    exact ⟨rfl, hF.same⟩
  ·
    refine o_val (v := .string (bs (key))) (x_move rfl) ?_
    refine o_val (v := .int .i64 ((((key) : Str).length : Int))) (x_len_string Tryz.underlying9 rfl) ?_
    refine o_val (v := .bool (decide ((1024 : Int) < ((((key) : Str).length : Int) : Int)))) (x_gtr rfl rfl) ?_
    refine o_val (v := .bool (decide ((1024 : Int) < ((((key) : Str).length : Int) : Int)))) (x_pickf rfl rfl) ?_
    refine o_nil ?_
    refine e_seq ?_
    refine c_splitd (d := 24) (p := (1024 : Int) < ((((key) : Str).length : Int) : Int)) rfl (fun hc0 => ?_) (fun hc0 => ?_)
    ·
      refine c_ift rfl ?_
      refine c_seq ?_
      refine c_region ?_
      refine o_val (v := .bool true) (x_move rfl) ?_
      refine o_val (v := .bool true) (x_assign rfl) ?_
      refine o_nil ?_
      refine e_seq ?_
      refine c_ret (e_ret (post_ret (res_1 (v := .bool true) rfl rfl) ?_))
      exact ⟨rfl, hF.same⟩
    ·
      refine c_iff rfl ?_
      refine c_skip ?_
      refine e_seq ?_
      refine c_seq ?_
      refine c_region ?_
      have fx_ : fewB x 500 = true := few_right (by assumption)
      obtain ⟨sx, dx, tx⟩ := fewB_ok (by omega) fx_
      have mx := short_max x tx
      have kx := short_ok x tx
      refine o_val (v := .agg (List.toArray cx)) (x_loadS (l := cx) Tryz.isAgg25 Tryz.sizeOf25 rfl hlcx (hF.cellsAll 0 rfl)) ?_
      refine o_call (cloneR_c x _ _ cx (hF.rep rx) (by omega) (by omega)) (x_call1 en_15 rfl rfl) ?_
      rintro _ w ⟨cw, rfl, hRt, hE⟩
      have hlcw : cw.length = 4 := hRt.length.trans (size_treeD _)
      have hocw := hRt.one_
      have hW : Rep (fun b => b < w.heap.size) w (treeD x) cw := hRt.weaken fun b hb _ => hb.2.1
      replace hF := hF.ext hE
      clear hE hRt
      refine o_lay (l := cw) hF Tryz.zeroValue25 (by rw [hlcw]; exact Tryz.sizeOf25) (by rw [hlcw]; rfl) (v := .agg (List.toArray cw)) rfl rfl (hocw) rfl ?_
      clear hF; intro b2 w hb2 hF hE
      replace hW := (hW.ext hE).weaken (fun b hb _ => Nat.lt_of_lt_of_le hb hE.size)
      clear hE
      refine o_nil ?_
      refine e_seq ?_
      refine c_seq ?_
      refine c_region ?_
      refine o_val (v := .agg (List.toArray cx)) (x_loadS (l := cx) Tryz.isAgg25 Tryz.sizeOf25 rfl hlcx (hF.cellsAll 1 rfl)) ?_
      refine o_val (v := .string (bs (key))) (x_move rfl) ?_
      obtain ⟨N1, hN1⟩ : ∃ N, N = w.heap.size := ⟨_, rfl⟩
      have hN0 : w0.heap.size ≤ N1 := by rw [hN1]; exact hF.same.size
      have lb2 : b2 < N1 := by rw [hN1]; exact hF.lt (i := 0) rfl
      have lb1 : b1 < N1 := by rw [hN1]; exact hF.lt (i := 1) rfl
      rw [← hN1] at hW
      refine o_call (getX_c x key (by omega) _ _ cx (hF.rep rx) kx (hG.ext hF.same)) (x_call2 en_28 rfl rfl rfl) ?_
      rintro _ w ⟨c1, rfl, hRt, hE⟩
      have hlc1 : c1.length = 4 := hRt.length.trans (size_treeD _)
      have hoc1 := hRt.one_
      replace hW := hW.ext hE
      obtain ⟨N2, hN2⟩ : ∃ N, N = w.heap.size := ⟨_, rfl⟩
      have hN2w : N2 ≤ w.heap.size := Nat.le_of_eq hN2
      obtain ⟨S1, hS1a, hS1s, hX3⟩ : ∃ S1 : Nat → Prop, (∀ b, S1 b → N1 ≤ b ∧ b < N2) ∧ (∀ b, S1 b → Soft w b) ∧ Rep S1 w (treeD (getV x key).1) c1 := ⟨_, fun b hb => ⟨by rw [hN1]; exact hb.1, by rw [hN2]; exact hb.2.1⟩, fun b hb => hb.2.2, hRt⟩
      replace hF := hF.ext hE
      clear hE hRt
      refine o_val (v := .tuple #[.agg (List.toArray c1), .bool ((getV x key).2)]) (x_move rfl) ?_
      refine o_val (v := .agg (List.toArray c1)) (x_extract rfl rfl) ?_
      refine o_val (v := .bool ((getV x key).2)) (x_extract rfl rfl) ?_
      refine o_lay (l := c1) hF Tryz.zeroValue25 (by rw [hlc1]; exact Tryz.sizeOf25) (by rw [hlc1]; rfl) (v := .agg (List.toArray c1)) rfl rfl (hoc1) rfl ?_
      clear hF; intro b3 w hb3 hF hE
      have gb3 : N2 ≤ b3 := hb3 ▸ hN2w
      replace hN2w := Nat.le_trans hN2w hE.size
      replace hW := hW.ext hE
      replace hX3 := hX3.ext hE
      replace hS1s : ∀ b, S1 b → Soft w b := fun b hb => soft_same hE (by simp) (hS1s b hb)
      clear hE
      refine o_val (v := .bool ((getV x key).2)) (x_assign rfl) ?_
      refine o_nil ?_
      refine e_seq ?_
      refine c_seq ?_
      refine c_region ?_
      refine o_val (v := .agg (List.toArray cx)) (x_loadS (l := cx) Tryz.isAgg25 Tryz.sizeOf25 rfl hlcx (hF.cellsAll 2 rfl)) ?_
      refine o_val (v := .string (bs (key))) (x_move rfl) ?_
      refine o_call (rgetX_c x key (by omega) (by omega) _ _ cx (hF.rep rx)) (x_call2 en_29 rfl rfl rfl) ?_
      rintro _ w ⟨c2, rfl, hRt, hE⟩
      have hlc2 : c2.length = 4 := hRt.length.trans (size_treeD _)
      have hoc2 := hRt.one_
      have hY4 : Rep (fun _ => True) w (treeD (getV x key).1) c2 := hRt.weaken fun _ _ _ => trivial
      replace hN2w := Nat.le_trans hN2w hE.size
      replace hW := hW.ext hE
      replace hX3 := hX3.ext hE
      replace hS1s : ∀ b, S1 b → Soft w b := fun b hb => soft_same hE (by simp) (hS1s b hb)
      replace hF := hF.ext hE
      clear hE hRt
      refine o_val (v := .tuple #[.agg (List.toArray c2), .bool ((getV x key).2)]) (x_move rfl) ?_
      refine o_val (v := .agg (List.toArray c2)) (x_extract rfl rfl) ?_
      refine o_val (v := .bool ((getV x key).2)) (x_extract rfl rfl) ?_
      refine o_lay (l := c2) hF Tryz.zeroValue25 (by rw [hlc2]; exact Tryz.sizeOf25) (by rw [hlc2]; rfl) (v := .agg (List.toArray c2)) rfl rfl (hoc2) rfl ?_
      clear hF; intro b4 w hb4 hF hE
      have gb4 : N2 ≤ b4 := hb4 ▸ hN2w
      replace hN2w := Nat.le_trans hN2w hE.size
      replace hW := hW.ext hE
      replace hX3 := hX3.ext hE
      replace hS1s : ∀ b, S1 b → Soft w b := fun b hb => soft_same hE (by simp) (hS1s b hb)
      replace hY4 := hY4.ext hE
      clear hE
      refine o_val (v := .bool ((getV x key).2)) (x_assign rfl) ?_
      refine o_nil ?_
      refine e_seq ?_
      refine c_seq ?_
      refine c_region ?_
      refine o_val (v := .agg (List.toArray c1)) (x_loadS (l := c1) Tryz.isAgg25 Tryz.sizeOf25 rfl hlc1 (hF.cellsAll 1 rfl)) ?_
      refine o_val (v := .agg (List.toArray c2)) (x_loadS (l := c2) Tryz.isAgg25 Tryz.sizeOf25 rfl hlc2 (hF.cellsAll 0 rfl)) ?_
      refine o_call (ret_eq (v' := .bool true) (equal_c (getV x key).1 (getV x key).1 _ _ _ c1 c2 hX3 hY4) (congrArg Value.bool (eqT_self _))) (x_call2 en_22 rfl rfl rfl) ?_
      rintro _ w ⟨rfl, hE⟩
      replace hF := hF.ext hE
      replace hN2w := Nat.le_trans hN2w hE.size
      replace hW := hW.ext hE
      replace hX3 := hX3.ext hE
      replace hS1s : ∀ b, S1 b → Soft w b := fun b hb => soft_same hE (by simp) (hS1s b hb)
      replace hY4 := hY4.ext hE
      clear hE
      refine o_val (v := .bool true) (x_assign rfl) ?_
      refine o_nil ?_
      refine e_seq ?_
      refine c_seq ?_
      refine c_region ?_
      refine o_val (v := .agg (List.toArray c1)) (x_loadS (l := c1) Tryz.isAgg25 Tryz.sizeOf25 rfl hlc1 (hF.cellsAll 1 rfl)) ?_
      refine o_call (spoil_c (getV x key).1 S1 _ c1 hX3 hS1s) (x_call1 en_30 rfl rfl) ?_
      rintro _ w ⟨rfl, hO⟩
      replace hF := hF.touch hO.same (fun b hb => by have h1 := hS1a b (mem_Sb.1 hb).2; refine ⟨fun h => absurd h (by omega), fun p hp => ?_⟩; simp only [List.mem_cons, List.not_mem_nil, or_false] at hp; rcases hp with rfl | rfl | rfl | rfl <;> (simp only; omega))
      replace hW := hW.same hO.same (fun b hb hlt => by have h1 := (hS1a b (mem_Sb.1 hb).2).1; exact absurd hlt (by show ¬ b < N1; omega))
      clear hO
      refine o_nil ?_
      refine e_seq ?_
      refine c_seq ?_
      refine c_drawF [] (.free 0 (.free 1 (.free 2 (.free 3 (.free 4 (.free 5 (.free 6 (.free 7 (.free 8 (.free 9 (.free 10 (.free 11 (.act 12 (.free 13 (.free 14 (.free 15 (.free 17 (.act 16 (.act 18 (.free 19 (.free 20 (.free 21 (.free 22 (.free 24 (.act 23 (.act 25 (.free 26 (.free 27 (.free 28 (.free 29 (.free 31 (.act 30 (.act 32 (.free 33 (.free 34 (.free 35 (.free 36 (.free 38 (.act 37 (.act 39 (.free 40 (.free 41 (.free 42 (.free 43 (.free 45 (.act 44 (.act 46 (.act 47 (.free 48 (.free 49 (.free 50 (.free 52 (.act 51 (.act 53 (.act 54 (.free 55 (.free 56 .nil))))))))))))))))))))))))))))))))))))))))))))))))))))))))) (by kernel_rfl) hF (by kernel_rfl) (by kernel_rfl) ?_
      clear hF; intro w hF hE
      replace hW := hW.ext hE
      clear hE
      refine ⟨fun wq => FR w0 [] [(b4, .cells (List.toArray c2) 25), (b3, .cells (List.toArray c1) 25), (b2, .cells (List.toArray cw) 25), (b1, .cells (List.toArray cx) 25)] wq, hF, ?_⟩
      refine f_free rfl (v := .bool true) (fun w hC => x_move rfl) ?_
      refine f_free rfl (v := .bool true) (fun w hC => x_move rfl) ?_
      refine f_free rfl (v := .bool true) (fun w hC => x_move rfl) ?_
      refine f_free rfl (v := .bool true) (fun w hC => x_pickt rfl rfl) ?_
      refine f_free rfl (v := .bool true) (fun w hC => x_move rfl) ?_
      refine f_free rfl (v := .bool ((getV x key).2)) (fun w hC => x_move rfl) ?_
      refine f_free rfl (v := .bool ((getV x key).2)) (fun w hC => x_move rfl) ?_
      refine f_free rfl (v := .bool true) (fun w hC => run_boolL (x_eqlb Tryz.underlying4 rfl rfl) (beq_self_eq_true _)) ?_
      refine f_free rfl (v := .bool true) (fun w hC => x_pickt rfl rfl) ?_
      refine f_free rfl (v := .bool true) (fun w hC => x_move rfl) ?_
      refine f_free rfl (v := .agg (List.toArray cx)) (fun w hC => x_loadS (l := cx) Tryz.isAgg25 Tryz.sizeOf25 rfl hlcx (hC.cellsAll 3 rfl)) ?_
      refine f_free rfl (v := .agg (List.toArray cw)) (fun w hC => x_loadS (l := cw) Tryz.isAgg25 Tryz.sizeOf25 rfl hlcw (hC.cellsAll 2 rfl)) ?_
      refine f_call rfl (ret_eq (v' := .bool true) (equal_c x x _ _ _ cx cw (hF.rep rx) hW) (congrArg Value.bool (eqT_self _))) (x_call2 en_22 rfl rfl rfl) ?_
      rintro _ w ⟨rfl, hE⟩
      replace hF := hF.ext hE
      replace hW := hW.ext hE
      clear hE
      refine ⟨hF, ?_⟩
      refine f_free rfl (v := .bool true) (fun w hC => x_pickt rfl rfl) ?_
      refine f_free rfl (v := .bool true) (fun w hC => x_move rfl) ?_
      refine f_free rfl (v := .agg (List.toArray cx)) (fun w hC => x_loadS (l := cx) Tryz.isAgg25 Tryz.sizeOf25 rfl hlcx (hC.cellsAll 3 rfl)) ?_
      refine f_free rfl (v := .agg (List.toArray cx)) (fun w hC => x_loadS (l := cx) Tryz.isAgg25 Tryz.sizeOf25 rfl hlcx (hC.cellsAll 3 rfl)) ?_
      refine f_call rfl (right_v x (by omega) _ _ cx (hF.rep rx) kx (hG.ext hF.same)) (x_call1 en_31 rfl rfl) ?_
      rintro _ w ⟨rfl, hE⟩
      replace hF := hF.ext hE
      replace hW := hW.ext hE
      clear hE
      refine ⟨hF, ?_⟩
      refine f_call rfl (rright_t x (by omega) (by omega) _ _ cx (hF.rep rx)) (x_call1 en_32 rfl rfl) ?_
      rintro _ w ⟨rfl, hE⟩
      replace hF := hF.ext hE
      replace hW := hW.ext hE
      clear hE
      refine ⟨hF, ?_⟩
      refine f_free rfl (v := .bool true) (fun w hC => run_boolL (x_eqlb Tryz.underlying4 rfl rfl) (beq_self_eq_true _)) ?_
      refine f_free rfl (v := .bool true) (fun w hC => x_pickt rfl rfl) ?_
      refine f_free rfl (v := .bool true) (fun w hC => x_move rfl) ?_
      refine f_free rfl (v := .agg (List.toArray cx)) (fun w hC => x_loadS (l := cx) Tryz.isAgg25 Tryz.sizeOf25 rfl hlcx (hC.cellsAll 3 rfl)) ?_
      refine f_free rfl (v := .agg (List.toArray cx)) (fun w hC => x_loadS (l := cx) Tryz.isAgg25 Tryz.sizeOf25 rfl hlcx (hC.cellsAll 3 rfl)) ?_
      refine f_call rfl (open_v x (by omega) _ _ cx (hF.rep rx) kx (hG.ext hF.same)) (x_call1 en_33 rfl rfl) ?_
      rintro _ w ⟨rfl, hE⟩
      replace hF := hF.ext hE
      replace hW := hW.ext hE
      clear hE
      refine ⟨hF, ?_⟩
      refine f_call rfl (ropen_t x (by omega) (by omega) _ _ cx (hF.rep rx)) (x_call1 en_34 rfl rfl) ?_
      rintro _ w ⟨rfl, hE⟩
      replace hF := hF.ext hE
      replace hW := hW.ext hE
      clear hE
      refine ⟨hF, ?_⟩
      refine f_free rfl (v := .bool true) (fun w hC => run_boolL (x_eqlb Tryz.underlying4 rfl rfl) (beq_self_eq_true _)) ?_
      refine f_free rfl (v := .bool true) (fun w hC => x_pickt rfl rfl) ?_
      refine f_free rfl (v := .bool true) (fun w hC => x_move rfl) ?_
      refine f_free rfl (v := .agg (List.toArray cx)) (fun w hC => x_loadS (l := cx) Tryz.isAgg25 Tryz.sizeOf25 rfl hlcx (hC.cellsAll 3 rfl)) ?_
      refine f_free rfl (v := .agg (List.toArray cx)) (fun w hC => x_loadS (l := cx) Tryz.isAgg25 Tryz.sizeOf25 rfl hlcx (hC.cellsAll 3 rfl)) ?_
      refine f_call rfl (size_v x (by omega) _ _ cx (hF.rep rx)) (x_call1 en_24 rfl rfl) ?_
      rintro _ w ⟨rfl, hE⟩
      replace hF := hF.ext hE
      replace hW := hW.ext hE
      clear hE
      refine ⟨hF, ?_⟩
      refine f_call rfl (rsizeT_c x (by omega) _ _ cx (hF.rep rx)) (x_call1 en_35 rfl rfl) ?_
      rintro _ w ⟨rfl, hE⟩
      replace hF := hF.ext hE
      replace hW := hW.ext hE
      clear hE
      refine ⟨hF, ?_⟩
      refine f_free rfl (v := .bool true) (fun w hC => run_true (x_eql rfl rfl) rfl) ?_
      refine f_free rfl (v := .bool true) (fun w hC => x_pickt rfl rfl) ?_
      refine f_free rfl (v := .bool true) (fun w hC => x_move rfl) ?_
      refine f_free rfl (v := .agg (List.toArray cx)) (fun w hC => x_loadS (l := cx) Tryz.isAgg25 Tryz.sizeOf25 rfl hlcx (hC.cellsAll 3 rfl)) ?_
      refine f_free rfl (v := .agg (List.toArray cx)) (fun w hC => x_loadS (l := cx) Tryz.isAgg25 Tryz.sizeOf25 rfl hlcx (hC.cellsAll 3 rfl)) ?_
      refine f_call rfl (depth_c x (by omega) _ _ cx (hF.rep rx)) (x_call1 en_36 rfl rfl) ?_
      rintro _ w ⟨rfl, hE⟩
      replace hF := hF.ext hE
      replace hW := hW.ext hE
      clear hE
      refine ⟨hF, ?_⟩
      refine f_call rfl (rdepthT_c x (by omega) _ _ cx (hF.rep rx)) (x_call1 en_37 rfl rfl) ?_
      rintro _ w ⟨rfl, hE⟩
      replace hF := hF.ext hE
      replace hW := hW.ext hE
      clear hE
      refine ⟨hF, ?_⟩
      refine f_free rfl (v := .bool true) (fun w hC => run_true (x_eql rfl rfl) rfl) ?_
      refine f_free rfl (v := .bool true) (fun w hC => x_pickt rfl rfl) ?_
      refine f_free rfl (v := .bool true) (fun w hC => x_move rfl) ?_
      refine f_free rfl (v := .string (bs (key))) (fun w hC => x_move rfl) ?_
      refine f_free rfl (v := .string (bs (key))) (fun w hC => x_move rfl) ?_
      refine f_call rfl (of_c key _) (x_call1 en_25 rfl rfl) ?_
      rintro _ w ⟨rfl, hE⟩
      replace hF := hF.ext hE
      replace hW := hW.ext hE
      clear hE
      refine ⟨hF, ?_⟩
      refine f_call rfl (rofT_c key _) (x_call1 en_38 rfl rfl) ?_
      rintro _ w ⟨rfl, hE⟩
      replace hF := hF.ext hE
      replace hW := hW.ext hE
      clear hE
      refine ⟨hF, ?_⟩
      refine f_call rfl (ret_eq (v' := .bool true) (equal_c (.node 4 key [] []) (.node 4 key [] []) (fun _ => True) (fun _ => True) _ [_, _, _, _] [_, _, _, _] (flat_rep ⟨by omega, by omega⟩ hkey) (flat_rep ⟨by omega, by omega⟩ hkey)) (congrArg Value.bool (eqT_self _))) (x_call2 en_22 rfl rfl rfl) ?_
      rintro _ w ⟨rfl, hE⟩
      replace hF := hF.ext hE
      replace hW := hW.ext hE
      clear hE
      refine ⟨hF, ?_⟩
      refine f_free rfl (v := .bool true) (fun w hC => x_pickt rfl rfl) ?_
      refine f_free rfl (v := .bool true) (fun w hC => x_move rfl) ?_
      refine f_free rfl (v := .int .i64 (n)) (fun w hC => x_move rfl) ?_
      refine f_free rfl (v := .int .i64 (n)) (fun w hC => x_move rfl) ?_
      refine f_call rfl (num_c n hn1 hn2 _ (hG.ext hF.same)) (x_call1 en_39 rfl rfl) ?_
      rintro _ w ⟨rfl, hE⟩
      replace hF := hF.ext hE
      replace hW := hW.ext hE
      clear hE
      refine ⟨hF, ?_⟩
      refine f_call rfl (rnum_c n hn1 hn2 _) (x_call1 en_40 rfl rfl) ?_
      rintro _ w ⟨rfl, hE⟩
      replace hF := hF.ext hE
      replace hW := hW.ext hE
      clear hE
      refine ⟨hF, ?_⟩
      refine f_call rfl (ret_eq (v' := .bool true) (equal_c (.node 3 (textN (ofN n)) [] []) (.node 3 (textN (ofN n)) [] []) (fun _ => True) (fun _ => True) _ [_, _, _, _] [_, _, _, _] (flat_rep ⟨by omega, by omega⟩ hnt) (flat_rep ⟨by omega, by omega⟩ hnt)) (congrArg Value.bool (eqT_self _))) (x_call2 en_22 rfl rfl rfl) ?_
      rintro _ w ⟨rfl, hE⟩
      replace hF := hF.ext hE
      replace hW := hW.ext hE
      clear hE
      refine ⟨hF, ?_⟩
      refine f_free rfl (v := .bool true) (fun w hC => x_pickt rfl rfl) ?_
      refine f_free rfl (v := .bool true) (fun w hC => x_assign rfl) ?_
      refine d_nil ?_
      refine e_seq ?_
      refine c_ret (e_ret (post_ret (res_1 (v := .bool true) rfl rfl) ?_))
      exact ⟨rfl, hF.same⟩
end Go.Scarf
