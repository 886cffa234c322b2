/- A part of the proof. -/
import Derived.Test.YtehmojdjpmliaaaGreatDoorW13
set_option linter.all false
namespace Go.Scarf
open Go.RowKit Go.Proofs
mutual
def orderT : Tree → Tree → Int
  | .node k t ks xs, .node k' t' ks' ys => if k = 3 ∧ k' = 3 then cmpN (parseN t).1 (parseN t').1 else
    if orL [Lib.compareInt k k', Lib.compareBytes t t', cmpL Lib.compareBytes ks ks'] ≠ 0 then orL [Lib.compareInt k k', Lib.compareBytes t t', cmpL Lib.compareBytes ks ks'] else orderL xs ys
def orderL : List Tree → List Tree → Int
  | [], [] => 0
  | [], _ :: _ => -1
  | _ :: _, [] => 1
  | x :: xs, y :: ys => if orderT x y ≠ 0 then orderT x y else orderL xs ys
end
theorem orderL_eq : ∀ xs ys : List Tree, cmpL orderT xs ys = orderL xs ys
  | [], [] => by rw [cmpL, orderL]
  | [], _ :: _ => by rw [cmpL, orderL]
  | _ :: _, [] => by rw [cmpL, orderL]
  | x :: xs, y :: ys => by rw [cmpL, orderL, orderL_eq xs ys]
def OrderC (x : Tree) : Prop := ∀ y S S' w0 cs ct, Rep S w0 (treeD x) cs → Rep S' w0 (treeD y) ct → okT x → okT y → Gl w0 → Calls Tryz.prog 68 #[.agg cs.toArray, .agg ct.toArray] w0 (Ret fun v w' => v = .int .i64 (orderT x y) ∧ Same [] w0 w')
set_option maxHeartbeats 4000000 in
set_option maxRecDepth 10000 in
theorem order_step (k : Int) (t : Str) (ks : List Str) (xs : List Tree) (ih : ∀ x, x ∈ xs → OrderC x) : OrderC (.node k t ks xs) := by
  rintro ⟨k', t', ks', ys⟩ S S' w0 cs ct hR hR' hk hk' hG
  rw [okT] at hk
  rw [okT] at hk'
  obtain ⟨A, c, B, e, rfl, -, -, hK, hX⟩ := hR.tree_inv
  obtain ⟨A', c', B', e', rfl, -, -, hK', hY⟩ := hR'.tree_inv
  refine calls_start Tryz.func68 rfl Tryz.ntmps68 (Nat.le_of_ble_eq_true rfl) (args_2 _ _) ?_
  have hF := FR.start w0 []
  refine c_seq ?_
  refine c_region ?_
  refine o_box (v := .agg #[.int .i64 (k), .string (bs (t)), .slice (A) (ks.length) (c), .slice (B) (xs.length) (e)]) (cs := #[.int .i64 (k), .string (bs (t)), .slice (A) (ks.length) (c), .slice (B) (xs.length) (e)]) hF rfl rfl ?_
  clear hF; intro b1 w hb1 hF hE
  clear hE
  refine o_box (v := .agg #[.int .i64 (k'), .string (bs (t')), .slice (A') (ks'.length) (c'), .slice (B') (ys.length) (e')]) (cs := #[.int .i64 (k'), .string (bs (t')), .slice (A') (ks'.length) (c'), .slice (B') (ys.length) (e')]) hF rfl rfl ?_
  clear hF; intro b2 w hb2 hF hE
  clear hE
  refine o_val (v := .int .i64 (0)) (x_assign rfl) ?_
  refine o_nil ?_
  refine e_seq ?_
  refine c_seq ?_
  refine c_seq ?_
  refine c_region ?_
  refine o_val (v := .pointer (some ⟨b1, 0, none⟩)) (x_fieldAddrO fa_25_0 rfl) ?_
  refine o_val (v := .int .i64 (k)) (x_load Tryz.isAgg3 rfl (hF.cell 1 rfl rfl)) ?_
  refine o_val (v := .bool (decide ((k : Int) = (3 : Int)))) (x_eql rfl rfl) ?_
  refine o_val (v := .bool (decide ((k : Int) = (3 : Int)))) (x_move rfl) ?_
  refine o_splitd (d := 13) (p := (k : Int) = (3 : Int)) rfl (fun hg0 => ?_) (fun hg0 => ?_)
  ·
    refine o_val (v := .pointer (some ⟨b2, 0, none⟩)) (x_fieldAddrO fa_25_0 rfl) ?_
    refine o_val (v := .int .i64 (k')) (x_load Tryz.isAgg3 rfl (hF.cell 0 rfl rfl)) ?_
    refine o_val (v := .bool (decide ((k' : Int) = (3 : Int)))) (x_eql rfl rfl) ?_
    refine o_val (v := .bool (decide ((k' : Int) = (3 : Int)))) (x_pickt rfl rfl) ?_
    refine o_nil ?_
    refine e_seq ?_
    refine c_splitd (d := 17) (p := (k' : Int) = (3 : Int)) rfl (fun hc0 => ?_) (fun hc0 => ?_)
    ·
      refine c_ift rfl ?_
      refine c_seq ?_
      refine c_region ?_
      refine o_val (v := .pointer (some ⟨b1, 1, none⟩)) (x_fieldAddrO fa_25_1 rfl) ?_
      refine o_val (v := .string (bs (t))) (x_load Tryz.isAgg9 rfl (hF.cell 1 rfl rfl)) ?_
      refine o_call (decimal_c t hk.1 _ (hG.ext hF.same)) (x_call1 en_87 rfl rfl) ?_
      rintro _ w ⟨rfl, hE⟩
      replace hF := hF.ext hE
      clear hE
      refine o_val (v := .tuple #[.agg #[.bool ((parseN t).1.neg), .string (bs ((parseN t).1.digits)), .int .i64 ((parseN t).1.exp)], .bool (decimalB t)]) (x_move rfl) ?_
      refine o_val (v := .agg #[.bool ((parseN t).1.neg), .string (bs ((parseN t).1.digits)), .int .i64 ((parseN t).1.exp)]) (x_extract rfl rfl) ?_
      refine o_val (v := .bool (decimalB t)) (x_extract rfl rfl) ?_
      refine o_lay (l := [.bool ((parseN t).1.neg), .string (bs ((parseN t).1.digits)), .int .i64 ((parseN t).1.exp)]) hF Tryz.zeroValue65 Tryz.sizeOf65 rfl (v := .agg #[.bool ((parseN t).1.neg), .string (bs ((parseN t).1.digits)), .int .i64 ((parseN t).1.exp)]) rfl rfl (by simp [one]) rfl ?_
      clear hF; intro b3 w hb3 hF hE
      clear hE
      refine o_val (v := .bool (decimalB t)) (x_assign rfl) ?_
      refine o_nil ?_
      refine e_seq ?_
      refine c_seq ?_
      refine c_region ?_
      refine o_val (v := .pointer (some ⟨b2, 1, none⟩)) (x_fieldAddrO fa_25_1 rfl) ?_
      refine o_val (v := .string (bs (t'))) (x_load Tryz.isAgg9 rfl (hF.cell 1 rfl rfl)) ?_
      refine o_call (decimal_c t' hk'.1 _ (hG.ext hF.same)) (x_call1 en_87 rfl rfl) ?_
      rintro _ w ⟨rfl, hE⟩
      replace hF := hF.ext hE
      clear hE
      refine o_val (v := .tuple #[.agg #[.bool ((parseN t').1.neg), .string (bs ((parseN t').1.digits)), .int .i64 ((parseN t').1.exp)], .bool (decimalB t')]) (x_move rfl) ?_
      refine o_val (v := .agg #[.bool ((parseN t').1.neg), .string (bs ((parseN t').1.digits)), .int .i64 ((parseN t').1.exp)]) (x_extract rfl rfl) ?_
      refine o_val (v := .bool (decimalB t')) (x_extract rfl rfl) ?_
      refine o_lay (l := [.bool ((parseN t').1.neg), .string (bs ((parseN t').1.digits)), .int .i64 ((parseN t').1.exp)]) hF Tryz.zeroValue65 Tryz.sizeOf65 rfl (v := .agg #[.bool ((parseN t').1.neg), .string (bs ((parseN t').1.digits)), .int .i64 ((parseN t').1.exp)]) rfl rfl (by simp [one]) rfl ?_
      clear hF; intro b4 w hb4 hF hE
      clear hE
      refine o_val (v := .bool (decimalB t')) (x_assign rfl) ?_
      refine o_nil ?_
      refine e_seq ?_
      refine c_seq ?_
      refine c_region ?_
      refine o_val (v := .agg #[.bool ((parseN t).1.neg), .string (bs ((parseN t).1.digits)), .int .i64 ((parseN t).1.exp)]) (x_loadS (l := [.bool ((parseN t).1.neg), .string (bs ((parseN t).1.digits)), .int .i64 ((parseN t).1.exp)]) Tryz.isAgg65 Tryz.sizeOf65 rfl rfl (hF.cellsAll 1 rfl)) ?_
      refine o_val (v := .agg #[.bool ((parseN t').1.neg), .string (bs ((parseN t').1.digits)), .int .i64 ((parseN t').1.exp)]) (x_loadS (l := [.bool ((parseN t').1.neg), .string (bs ((parseN t').1.digits)), .int .i64 ((parseN t').1.exp)]) Tryz.isAgg65 Tryz.sizeOf65 rfl rfl (hF.cellsAll 0 rfl)) ?_
      refine o_call (numCompare_c (parseN t).1 (parseN t').1 (by have := parseN_len t; omega) (by have := parseN_len t'; omega) _) (x_call2 en_98 rfl rfl rfl) ?_
      rintro _ w ⟨rfl, hE⟩
      replace hF := hF.ext hE
      clear hE
      refine o_val (v := .int .i64 (cmpN (parseN t).1 (parseN t').1)) (x_assign rfl) ?_
      refine o_nil ?_
      refine e_seq ?_
      refine c_ret (e_ret (post_ret (res_1 (v := .int .i64 (cmpN (parseN t).1 (parseN t').1)) rfl rfl) ?_))
      refine ⟨congrArg (Value.int .i64) ?_, hF.same⟩
      rw [orderT]
      clear hF hR hR' hX hY hK hK' ih hk hk'
      first | (simp_all [orderL_eq]; done) | (simp_all [orderL_eq]; omega)
    ·
      refine c_iff rfl ?_
      refine c_skip ?_
      refine e_seq ?_
      refine c_seq ?_
      refine c_drawF [] (.free 0 (.free 1 (.free 2 (.free 3 (.free 5 (.free 6 (.free 7 (.free 8 (.free 10 (.free 11 (.free 12 (.free 13 (.act 4 (.act 9 (.act 14 (.act 15 (.act 16 (.free 17 .nil)))))))))))))))))) (by kernel_rfl) hF (by kernel_rfl) (by kernel_rfl) ?_
      clear hF; intro w hF hE
      clear hE
      refine ⟨fun wq => FR w0 [] [(b2, .cells #[.int .i64 (k'), .string (bs (t')), .slice (A') (ks'.length) (c'), .slice (B') (ys.length) (e')] 25), (b1, .cells #[.int .i64 (k), .string (bs (t)), .slice (A) (ks.length) (c), .slice (B) (xs.length) (e)] 25)] wq, hF, ?_⟩
      refine f_free rfl (v := .pointer (some ⟨b1, 0, none⟩)) (fun w hC => x_fieldAddrO fa_25_0 rfl) ?_
      refine f_free rfl (v := .int .i64 (k)) (fun w hC => x_load Tryz.isAgg3 rfl (hC.cell 1 rfl rfl)) ?_
      refine f_free rfl (v := .pointer (some ⟨b2, 0, none⟩)) (fun w hC => x_fieldAddrO fa_25_0 rfl) ?_
      refine f_free rfl (v := .int .i64 (k')) (fun w hC => x_load Tryz.isAgg3 rfl (hC.cell 0 rfl rfl)) ?_
      refine f_free rfl (v := .pointer (some ⟨b1, 1, none⟩)) (fun w hC => x_fieldAddrO fa_25_1 rfl) ?_
      refine f_free rfl (v := .string (bs (t))) (fun w hC => x_load Tryz.isAgg9 rfl (hC.cell 1 rfl rfl)) ?_
      refine f_free rfl (v := .pointer (some ⟨b2, 1, none⟩)) (fun w hC => x_fieldAddrO fa_25_1 rfl) ?_
      refine f_free rfl (v := .string (bs (t'))) (fun w hC => x_load Tryz.isAgg9 rfl (hC.cell 0 rfl rfl)) ?_
      refine f_free rfl (v := .pointer (some ⟨b1, 2, none⟩)) (fun w hC => x_fieldAddrO fa_25_2 rfl) ?_
      refine f_free rfl (v := .slice (A) (ks.length) (c)) (fun w hC => x_load Tryz.isAgg22 rfl (hC.cell 1 rfl rfl)) ?_
      refine f_free rfl (v := .pointer (some ⟨b2, 2, none⟩)) (fun w hC => x_fieldAddrO fa_25_2 rfl) ?_
      refine f_free rfl (v := .slice (A') (ks'.length) (c')) (fun w hC => x_load Tryz.isAgg22 rfl (hC.cell 0 rfl rfl)) ?_
      refine f_call rfl (cmpInt_c k k' _) (x_call2 en_100 rfl rfl rfl) ?_
      rintro _ w ⟨rfl, hE⟩
      replace hF := hF.ext hE
      clear hE
      refine ⟨hF, ?_⟩
      refine f_call rfl (compareS_c t t' _) (x_call2 en_101 rfl rfl rfl) ?_
      rintro _ w ⟨rfl, hE⟩
      replace hF := hF.ext hE
      clear hE
      refine ⟨hF, ?_⟩
      refine f_call rfl (rowsS_c ks ks' A A' c c' S S' _ (hF.rep hK) (hF.rep hK')) (x_call3 en_102 rfl rfl rfl rfl) ?_
      rintro _ w ⟨rfl, hE⟩
      replace hF := hF.ext hE
      clear hE
      refine ⟨hF, ?_⟩
      refine f_new rfl (v := fun b => .slice (some ⟨b, 0, none⟩) 3 3) hF (x_buildSlice (cs := #[.int .i64 (Lib.compareInt k k'), .int .i64 (Lib.compareBytes t t'), .int .i64 (cmpL Lib.compareBytes ks ks')]) Tryz.underlying116 Tryz.sizeOf3 Tryz.zeroValue3 (by decide) (by decide) (by kernel_rfl)) ?_
      clear hF; intro b5 w hb5 hF hE
      clear hE
      refine ⟨hF.sub (.cons _ (.cons_cons _ (.cons_cons _ .slnil))), ?_⟩
      refine f_call rfl (or_c [Lib.compareInt k k', Lib.compareBytes t t', cmpL Lib.compareBytes ks ks'] _ 3 (by simp) _ (or3_cells (hF.cellsAll 0 rfl))) (x_call1 en_99 rfl rfl) ?_
      rintro _ w ⟨rfl, hE⟩
      replace hF := hF.ext hE
      clear hE
      refine ⟨hF.sub (.cons _ (.cons_cons _ (.cons_cons _ .slnil))), ?_⟩
      refine f_free rfl (v := .int .i64 (orL [Lib.compareInt k k', Lib.compareBytes t t', cmpL Lib.compareBytes ks ks'])) (fun w hC => x_assign rfl) ?_
      refine d_nil ?_
      refine e_seq ?_
      refine c_seq ?_
      refine c_seq ?_
      refine c_region ?_
      refine o_val (v := .int .i64 (orL [Lib.compareInt k k', Lib.compareBytes t t', cmpL Lib.compareBytes ks ks'])) (x_move rfl) ?_
      refine o_val (v := .bool (decide ((orL [Lib.compareInt k k', Lib.compareBytes t t', cmpL Lib.compareBytes ks ks'] : Int) ≠ (0 : Int)))) (x_neq rfl rfl) ?_
      refine o_nil ?_
      refine e_seq ?_
      refine c_splitd (d := 51) (p := (orL [Lib.compareInt k k', Lib.compareBytes t t', cmpL Lib.compareBytes ks ks'] : Int) ≠ (0 : Int)) rfl (fun hc1 => ?_) (fun hc1 => ?_)
      ·
        refine c_ift rfl ?_
        refine c_seq ?_
        refine c_region ?_
        refine o_val (v := .int .i64 (orL [Lib.compareInt k k', Lib.compareBytes t t', cmpL Lib.compareBytes ks ks'])) (x_move rfl) ?_
        refine o_val (v := .int .i64 (orL [Lib.compareInt k k', Lib.compareBytes t t', cmpL Lib.compareBytes ks ks'])) (x_assign rfl) ?_
        refine o_nil ?_
        refine e_seq ?_
        refine c_ret (e_ret (post_ret (res_1 (v := .int .i64 (orL [Lib.compareInt k k', Lib.compareBytes t t', cmpL Lib.compareBytes ks ks'])) rfl rfl) ?_))
        refine ⟨congrArg (Value.int .i64) ?_, hF.same⟩
        rw [orderT]
        clear hF hR hR' hX hY hK hK' ih hk hk'
        first | (simp_all [orderL_eq]; done) | (simp_all [orderL_eq]; omega)
      ·
        refine c_iff rfl ?_
        refine c_skip ?_
        refine e_seq ?_
        refine c_seq ?_
        refine c_region ?_
        refine o_val (v := .pointer (some ⟨b1, 3, none⟩)) (x_fieldAddrO fa_25_3 rfl) ?_
        refine o_val (v := .slice (B) (xs.length) (e)) (x_load Tryz.isAgg23 rfl (hF.cell 2 rfl rfl)) ?_
        refine o_val (v := .pointer (some ⟨b2, 3, none⟩)) (x_fieldAddrO fa_25_3 rfl) ?_
        refine o_val (v := .slice (B') (ys.length) (e')) (x_load Tryz.isAgg23 rfl (hF.cell 1 rfl rfl)) ?_
        refine o_call (rowsT_c orderT xs ys B B' e e' S S' _ (hF.rep hX) (hF.rep hY) (fun x hx y hy S1 S2 w1 cs1 ct1 hs h1 h2 => ih x hx y S1 S2 w1 cs1 ct1 h1 h2 (okTs_mem hk.2.2 x hx) (okTs_mem hk'.2.2 y hy) ((hG.ext hF.same).ext hs))) (x_call3 en_103 rfl rfl rfl rfl) ?_
        rintro _ w ⟨rfl, hE⟩
        replace hF := hF.ext hE
        clear hE
        refine o_val (v := .int .i64 (cmpL orderT xs ys)) (x_assign rfl) ?_
        refine o_nil ?_
        refine e_seq ?_
        refine c_ret (e_ret (post_ret (res_1 (v := .int .i64 (cmpL orderT xs ys)) rfl rfl) ?_))
        refine ⟨congrArg (Value.int .i64) ?_, hF.same⟩
        rw [orderT]
        clear hF hR hR' hX hY hK hK' ih hk hk'
        first | (simp_all [orderL_eq]; done) | (simp_all [orderL_eq]; omega)
  ·
    refine o_off ?_
    refine o_off ?_
    refine o_off ?_
    refine o_val (v := .bool false) (x_pickf rfl rfl) ?_
    refine o_nil ?_
    refine e_seq ?_
    refine c_iff rfl ?_
    refine c_skip ?_
    refine e_seq ?_
    refine c_seq ?_
    refine c_drawF [] (.free 0 (.free 1 (.free 2 (.free 3 (.free 5 (.free 6 (.free 7 (.free 8 (.free 10 (.free 11 (.free 12 (.free 13 (.act 4 (.act 9 (.act 14 (.act 15 (.act 16 (.free 17 .nil)))))))))))))))))) (by kernel_rfl) hF (by kernel_rfl) (by kernel_rfl) ?_
    clear hF; intro w hF hE
    clear hE
    refine ⟨fun wq => FR w0 [] [(b2, .cells #[.int .i64 (k'), .string (bs (t')), .slice (A') (ks'.length) (c'), .slice (B') (ys.length) (e')] 25), (b1, .cells #[.int .i64 (k), .string (bs (t)), .slice (A) (ks.length) (c), .slice (B) (xs.length) (e)] 25)] wq, hF, ?_⟩
    refine f_free rfl (v := .pointer (some ⟨b1, 0, none⟩)) (fun w hC => x_fieldAddrO fa_25_0 rfl) ?_
    refine f_free rfl (v := .int .i64 (k)) (fun w hC => x_load Tryz.isAgg3 rfl (hC.cell 1 rfl rfl)) ?_
    refine f_free rfl (v := .pointer (some ⟨b2, 0, none⟩)) (fun w hC => x_fieldAddrO fa_25_0 rfl) ?_
    refine f_free rfl (v := .int .i64 (k')) (fun w hC => x_load Tryz.isAgg3 rfl (hC.cell 0 rfl rfl)) ?_
    refine f_free rfl (v := .pointer (some ⟨b1, 1, none⟩)) (fun w hC => x_fieldAddrO fa_25_1 rfl) ?_
    refine f_free rfl (v := .string (bs (t))) (fun w hC => x_load Tryz.isAgg9 rfl (hC.cell 1 rfl rfl)) ?_
    refine f_free rfl (v := .pointer (some ⟨b2, 1, none⟩)) (fun w hC => x_fieldAddrO fa_25_1 rfl) ?_
    refine f_free rfl (v := .string (bs (t'))) (fun w hC => x_load Tryz.isAgg9 rfl (hC.cell 0 rfl rfl)) ?_
    refine f_free rfl (v := .pointer (some ⟨b1, 2, none⟩)) (fun w hC => x_fieldAddrO fa_25_2 rfl) ?_
    refine f_free rfl (v := .slice (A) (ks.length) (c)) (fun w hC => x_load Tryz.isAgg22 rfl (hC.cell 1 rfl rfl)) ?_
    refine f_free rfl (v := .pointer (some ⟨b2, 2, none⟩)) (fun w hC => x_fieldAddrO fa_25_2 rfl) ?_
    refine f_free rfl (v := .slice (A') (ks'.length) (c')) (fun w hC => x_load Tryz.isAgg22 rfl (hC.cell 0 rfl rfl)) ?_
    refine f_call rfl (cmpInt_c k k' _) (x_call2 en_100 rfl rfl rfl) ?_
    rintro _ w ⟨rfl, hE⟩
    replace hF := hF.ext hE
    clear hE
    refine ⟨hF, ?_⟩
    refine f_call rfl (compareS_c t t' _) (x_call2 en_101 rfl rfl rfl) ?_
    rintro _ w ⟨rfl, hE⟩
    replace hF := hF.ext hE
    clear hE
    refine ⟨hF, ?_⟩
    refine f_call rfl (rowsS_c ks ks' A A' c c' S S' _ (hF.rep hK) (hF.rep hK')) (x_call3 en_102 rfl rfl rfl rfl) ?_
    rintro _ w ⟨rfl, hE⟩
    replace hF := hF.ext hE
    clear hE
    refine ⟨hF, ?_⟩
    refine f_new rfl (v := fun b => .slice (some ⟨b, 0, none⟩) 3 3) hF (x_buildSlice (cs := #[.int .i64 (Lib.compareInt k k'), .int .i64 (Lib.compareBytes t t'), .int .i64 (cmpL Lib.compareBytes ks ks')]) Tryz.underlying116 Tryz.sizeOf3 Tryz.zeroValue3 (by decide) (by decide) (by kernel_rfl)) ?_
    clear hF; intro b6 w hb6 hF hE
    clear hE
    refine ⟨hF.sub (.cons _ (.cons_cons _ (.cons_cons _ .slnil))), ?_⟩
    refine f_call rfl (or_c [Lib.compareInt k k', Lib.compareBytes t t', cmpL Lib.compareBytes ks ks'] _ 3 (by simp) _ (or3_cells (hF.cellsAll 0 rfl))) (x_call1 en_99 rfl rfl) ?_
    rintro _ w ⟨rfl, hE⟩
    replace hF := hF.ext hE
    clear hE
    refine ⟨hF.sub (.cons _ (.cons_cons _ (.cons_cons _ .slnil))), ?_⟩
    refine f_free rfl (v := .int .i64 (orL [Lib.compareInt k k', Lib.compareBytes t t', cmpL Lib.compareBytes ks ks'])) (fun w hC => x_assign rfl) ?_
    refine d_nil ?_
    refine e_seq ?_
    refine c_seq ?_
    refine c_seq ?_
    refine c_region ?_
    refine o_val (v := .int .i64 (orL [Lib.compareInt k k', Lib.compareBytes t t', cmpL Lib.compareBytes ks ks'])) (x_move rfl) ?_
    refine o_val (v := .bool (decide ((orL [Lib.compareInt k k', Lib.compareBytes t t', cmpL Lib.compareBytes ks ks'] : Int) ≠ (0 : Int)))) (x_neq rfl rfl) ?_
    refine o_nil ?_
    refine e_seq ?_
    refine c_splitd (d := 51) (p := (orL [Lib.compareInt k k', Lib.compareBytes t t', cmpL Lib.compareBytes ks ks'] : Int) ≠ (0 : Int)) rfl (fun hc1 => ?_) (fun hc1 => ?_)
    ·
      refine c_ift rfl ?_
      refine c_seq ?_
      refine c_region ?_
      refine o_val (v := .int .i64 (orL [Lib.compareInt k k', Lib.compareBytes t t', cmpL Lib.compareBytes ks ks'])) (x_move rfl) ?_
      refine o_val (v := .int .i64 (orL [Lib.compareInt k k', Lib.compareBytes t t', cmpL Lib.compareBytes ks ks'])) (x_assign rfl) ?_
      refine o_nil ?_
      refine e_seq ?_
      refine c_ret (e_ret (post_ret (res_1 (v := .int .i64 (orL [Lib.compareInt k k', Lib.compareBytes t t', cmpL Lib.compareBytes ks ks'])) rfl rfl) ?_))
      refine ⟨congrArg (Value.int .i64) ?_, hF.same⟩
      rw [orderT]
      clear hF hR hR' hX hY hK hK' ih hk hk'
      first | (simp_all [orderL_eq]; done) | (simp_all [orderL_eq]; omega)
    ·
      refine c_iff rfl ?_
      refine c_skip ?_
      refine e_seq ?_
      refine c_seq ?_
      refine c_region ?_
      refine o_val (v := .pointer (some ⟨b1, 3, none⟩)) (x_fieldAddrO fa_25_3 rfl) ?_
      refine o_val (v := .slice (B) (xs.length) (e)) (x_load Tryz.isAgg23 rfl (hF.cell 2 rfl rfl)) ?_
      refine o_val (v := .pointer (some ⟨b2, 3, none⟩)) (x_fieldAddrO fa_25_3 rfl) ?_
      refine o_val (v := .slice (B') (ys.length) (e')) (x_load Tryz.isAgg23 rfl (hF.cell 1 rfl rfl)) ?_
      refine o_call (rowsT_c orderT xs ys B B' e e' S S' _ (hF.rep hX) (hF.rep hY) (fun x hx y hy S1 S2 w1 cs1 ct1 hs h1 h2 => ih x hx y S1 S2 w1 cs1 ct1 h1 h2 (okTs_mem hk.2.2 x hx) (okTs_mem hk'.2.2 y hy) ((hG.ext hF.same).ext hs))) (x_call3 en_103 rfl rfl rfl rfl) ?_
      rintro _ w ⟨rfl, hE⟩
      replace hF := hF.ext hE
      clear hE
      refine o_val (v := .int .i64 (cmpL orderT xs ys)) (x_assign rfl) ?_
      refine o_nil ?_
      refine e_seq ?_
      refine c_ret (e_ret (post_ret (res_1 (v := .int .i64 (cmpL orderT xs ys)) rfl rfl) ?_))
      refine ⟨congrArg (Value.int .i64) ?_, hF.same⟩
      rw [orderT]
      clear hF hR hR' hX hY hK hK' ih hk hk'
      first | (simp_all [orderL_eq]; done) | (simp_all [orderL_eq]; omega)
theorem order_c (x : Tree) : OrderC x := Tree.ind order_step x
end Go.Scarf
