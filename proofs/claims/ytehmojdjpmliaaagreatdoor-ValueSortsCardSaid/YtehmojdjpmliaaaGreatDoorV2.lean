/- A part of the proof. -/
import Derived.Test.YtehmojdjpmliaaaGreatDoorV1
set_option linter.all false
namespace Go.Scarf
open Go.RowKit Go.Proofs
abbrev inRow (x : Tree) : Tree := .node 5 [] [] [x]
theorem inRow_size (x : Tree) : sizeT (inRow x) = sizeT x + 1 := by simp only [inRow, sizeT, sizeTs]; omega
theorem inRow_depth (x : Tree) : depthT (inRow x) = depthT x + 1 := by simp only [inRow, depthT, depthTs]; omega
theorem inRow_right (x : Tree) (h : sizeT x ≤ 200) : rightB (inRow x) = (rightB x && decide (depthT x < 32)) := by
  unfold rightB sizedB
  rw [inRow_size, inRow_depth, inRow, allT, allTs, allTs]
  have h1 : rnodeB (.node 5 [] [] [x]) = true := by simp [rnodeB, nodeB, Tree.kind]
  rw [h1, decide_eq_true (by omega : sizeT x + 1 ≤ 4096), decide_eq_true (by omega : sizeT x ≤ 4096)]
  by_cases hd : depthT x < 32
  · rw [decide_eq_true hd, decide_eq_true (by omega : depthT x + 1 ≤ 32), decide_eq_true (by omega : depthT x ≤ 32)]; simp
  · rw [decide_eq_false hd, decide_eq_false (by omega : ¬ depthT x + 1 ≤ 32)]; simp
theorem getV_not {x : Tree} {key : Str} (h : ¬ (openB x = true ∧ x.kind = 6)) : getV x key = (zeroT, false) := by rw [getV, if_neg h]
theorem getV_at {t : Str} {ks : List Str} {xs : List Tree} (ho : openB (.node 6 t ks xs) = true) {j : Nat} (h : j < ks.length) (h2 : j < xs.length) : getV (.node 6 t ks xs) ks[j] = (xs[j], true) := by
  rw [getV, if_pos ⟨ho, rfl⟩]
  show (match lookT ks xs ks[j] with | some y => (y, true) | none => (zeroT, false)) = _
  rw [lookT_get (node6 (allT_node (open_all ho)).1).1 h h2]
theorem Rep.all {S : Nat → Prop} {w : World} {d : D} {cs : List Value} (h : Rep S w d cs) : Rep (fun _ => True) w d cs := h.weaken fun _ _ _ => trivial
theorem FR.rowAll {w0 w : World} {bs : List (Nat × Obj)} {ds : List D} (hF : FR w0 [] bs w) (i : Nat) {b n : Nat} {l : List Value} {T : TypeId} (hi : bs[i]? = some (b, .cells l.toArray T)) (hr : RepL (fun _ => True) w ds l) (hn : ds.length = n) (hm : n ≤ 9223372036854775807) :
    Rep (fun _ => True) w (.slice ds) [.slice (some ⟨b, 0, none⟩) n n] :=
  Rep.slice_mk hn.symm (Nat.le_refl _) hm fun _ => ⟨_, rfl, l, fun j hj => ⟨hF.cellsAll i hi j hj, trivial⟩, hr⟩
theorem RepL.single {S : Nat → Prop} {w : World} {d : D} {cs : List Value} (h : Rep S w d cs) : RepL S w [d] cs := by
  have := RepL.cons_mk h RepL.nil_mk
  rw [List.append_nil] at this
  exact this
set_option maxHeartbeats 4000000 in
set_option maxRecDepth 10000 in
theorem valueHolds_w0 (w0 : World) (hG : Gl w0) (k : Int) (t : Str) (ks : List Str) (xs : List Tree) (cx : List Value) (rx : Rep (fun _ => True) w0 (treeD (.node k t ks xs)) cx) : Calls Tryz.prog 9 #[.agg cx.toArray] w0 (Ret fun v w' => v = .bool true ∧ Same [] w0 w') := by
  have rx0 := rx
  obtain ⟨A, c, B, e, rfl, hkk, -, hK, hX⟩ := rx0.tree_inv
  have hXl := hX.slice_len
  have hKl := hK.slice_len
  refine calls_start Tryz.func9 rfl Tryz.ntmps9 (Nat.le_of_ble_eq_true rfl) (args_1 _) ?_
  have hF := FR.start w0 []
  refine c_seq ?_
  refine c_region ?_
  refine o_box (v := .agg #[.int .i64 (k), .string (bs (t)), .slice (A) (ks.length) (c), .slice (B) (xs.length) (e)]) (cs := #[.int .i64 (k), .string (bs (t)), .slice (A) (ks.length) (c), .slice (B) (xs.length) (e)]) hF rfl rfl ?_
  clear hF; intro b1 w hb1 hF hE
  clear hE
  refine o_val (v := .bool false) (x_assign rfl) ?_
  refine o_nil ?_
  refine e_seq ?_
  refine c_seq ?_
  refine c_region ?_
  refine o_call (small_c _ (hG.ext hF.same)) (x_call0 en_27 rfl) ?_
  rintro _ w ⟨rfl, hE⟩
  replace hF := hF.ext hE
  clear hE
  refine o_val (v := .bool true) (x_assign rfl) ?_
  refine o_nil ?_
  refine e_seq ?_
  refine c_seq ?_
  refine c_region ?_
  refine o_val (v := .agg #[.int .i64 (k), .string (bs (t)), .slice (A) (ks.length) (c), .slice (B) (xs.length) (e)]) (x_loadS (l := [.int .i64 (k), .string (bs (t)), .slice (A) (ks.length) (c), .slice (B) (xs.length) (e)]) Tryz.isAgg25 Tryz.sizeOf25 rfl rfl (hF.cellsAll 0 rfl)) ?_
  refine o_call (few_v (.node k t ks xs) 200 (by omega) (by omega) _ _ _ (hF.rep rx)) (x_call2 en_14 rfl rfl rfl) ?_
  rintro _ w ⟨rfl, hE⟩
  replace hF := hF.ext hE
  clear hE
  refine o_val (v := .bool (fewB (.node k t ks xs) 200)) (x_assign rfl) ?_
  refine o_nil ?_
  refine e_seq ?_
  refine c_seq ?_
  refine c_seq ?_
  refine c_region ?_
  refine o_val (v := .bool (fewB (.node k t ks xs) 200)) (x_move rfl) ?_
  refine o_val (v := .bool (!(fewB (.node k t ks xs) 200))) (x_not rfl) ?_
  refine o_nil ?_
  refine e_seq ?_
  refine c_split (d := 15) (b := !(fewB (.node k t ks xs) 200)) rfl (fun hc0 => ?_) (fun hc0 => ?_)
  ·
    refine c_ift rfl ?_
    refine c_seq ?_
    refine c_region ?_
    refine o_val (v := .bool true) (x_move rfl) ?_
    refine o_val (v := .bool true) (x_assign rfl) ?_
    refine o_nil ?_
    refine e_seq ?_
    refine c_ret (e_ret (post_ret (res_1 (v := .bool true) rfl rfl) ?_))
    exact ⟨rfl, hF.same⟩
  ·
    refine c_iff rfl ?_
    refine c_skip ?_
    refine e_seq ?_
    refine c_seq ?_
    refine c_region ?_
    have fx : fewB (.node k t ks xs) 200 = true := by simpa using hc0
    obtain ⟨sx, -, tx⟩ := fewB_ok (by omega) fx
    have kx := short_ok (.node k t ks xs) tx
    have kw : okT (inRow (.node k t ks xs)) := by rw [inRow, okT]; exact ⟨by simp, by simp, by rw [okTs, okTs]; exact ⟨kx, trivial⟩⟩
    have e4 := depth_le (.node k t ks xs)
    have e5 : decide (((depthT (.node k t ks xs) : Nat) : Int) < 32) = decide (depthT (.node k t ks xs) < 32) := decide_eq_decide.2 (by omega)
    have e1 := inRow_size (.node k t ks xs)
    have e2 := inRow_depth (.node k t ks xs)
    have e3 := inRow_right (.node k t ks xs) (by omega)
    refine o_val (v := .agg #[.int .i64 (k), .string (bs (t)), .slice (A) (ks.length) (c), .slice (B) (xs.length) (e)]) (x_loadS (l := [.int .i64 (k), .string (bs (t)), .slice (A) (ks.length) (c), .slice (B) (xs.length) (e)]) Tryz.isAgg25 Tryz.sizeOf25 rfl rfl (hF.cellsAll 0 rfl)) ?_
    refine o_new (v := fun b => .slice (some ⟨b, 0, none⟩) 1 1) hF (x_buildSlice (cs := #[.int .i64 (k), .string (bs (t)), .slice (A) (ks.length) (c), .slice (B) (xs.length) (e)]) Tryz.underlying23 Tryz.sizeOf25 Tryz.zeroValue25 (by decide) (by decide) (by kernel_rfl)) ?_
    clear hF; intro b2 w hb2 hF hE
    clear hE
    refine o_call (row_c (some ⟨b2, 0, none⟩) 1 1 _) (x_call1 en_43 rfl rfl) ?_
    rintro _ w ⟨rfl, hE⟩
    replace hF := hF.ext hE
    clear hE
    refine o_lay (l := [.int .i64 (5), .string (bs ([])), .slice (none) (0) (0), .slice (some ⟨b2, 0, none⟩) (1) (1)]) hF Tryz.zeroValue25 Tryz.sizeOf25 rfl (v := .agg #[.int .i64 (5), .string (bs ([])), .slice (none) (0) (0), .slice (some ⟨b2, 0, none⟩) (1) (1)]) rfl rfl (by simp [one]) rfl ?_
    clear hF; intro b3 w hb3 hF hE
    clear hE
    refine o_nil ?_
    refine e_seq ?_
    refine c_seq ?_
    refine c_seq ?_
    have rw_ : Rep (fun _ => True) w (treeD (inRow (.node k t ks xs))) [.int .i64 5, .string (bs []), .slice none 0 0, .slice (some ⟨b2, 0, none⟩) (1) (1)] := Rep.tree_mk (ks := []) ⟨by omega, by omega⟩ (by simp) (Rep.nil_slice 0 (by omega) none) (hF.rowAll 1 rfl (RepL.single (hF.rep rx)) rfl (by omega))
    refine c_drawF [] (.free 0 (.free 2 (.act 1 (.act 3 (.free 4 (.free 5 (.free 6 (.free 7 (.free 9 (.act 8 (.act 10 (.free 11 (.free 12 (.free 13 (.free 14 (.free 15 (.free 17 (.act 16 (.act 18 (.free 19 (.free 20 (.act 21 (.free 22 (.free 23 (.free 24 (.free 25 .nil)))))))))))))))))))))))))) (by kernel_rfl) hF (by kernel_rfl) (by kernel_rfl) ?_
    clear hF; intro w hF hE
    replace rw_ := rw_.ext hE
    clear hE
    refine ⟨fun wq => FR w0 [] [(b3, .cells #[.int .i64 (5), .string (bs ([])), .slice (none) (0) (0), .slice (some ⟨b2, 0, none⟩) (1) (1)] 25), (b2, .cells #[.int .i64 (k), .string (bs (t)), .slice (A) (ks.length) (c), .slice (B) (xs.length) (e)] 25), (b1, .cells #[.int .i64 (k), .string (bs (t)), .slice (A) (ks.length) (c), .slice (B) (xs.length) (e)] 25)] wq, hF, ?_⟩
    refine f_free rfl (v := .agg #[.int .i64 (5), .string (bs ([])), .slice (none) (0) (0), .slice (some ⟨b2, 0, none⟩) (1) (1)]) (fun w hC => x_loadS (l := [.int .i64 (5), .string (bs ([])), .slice (none) (0) (0), .slice (some ⟨b2, 0, none⟩) (1) (1)]) Tryz.isAgg25 Tryz.sizeOf25 rfl rfl (hC.cellsAll 0 rfl)) ?_
    refine f_free rfl (v := .agg #[.int .i64 (k), .string (bs (t)), .slice (A) (ks.length) (c), .slice (B) (xs.length) (e)]) (fun w hC => x_loadS (l := [.int .i64 (k), .string (bs (t)), .slice (A) (ks.length) (c), .slice (B) (xs.length) (e)]) Tryz.isAgg25 Tryz.sizeOf25 rfl rfl (hC.cellsAll 2 rfl)) ?_
    refine f_call rfl (size_v (inRow (.node k t ks xs)) (by omega) _ _ _ rw_) (x_call1 en_24 rfl rfl) ?_
    rintro _ w ⟨rfl, hE⟩
    replace hF := hF.ext hE
    replace rw_ := rw_.ext hE
    clear hE
    refine ⟨hF, ?_⟩
    refine f_call rfl (size_v (.node k t ks xs) (by omega) _ _ _ (hF.rep rx)) (x_call1 en_24 rfl rfl) ?_
    rintro _ w ⟨rfl, hE⟩
    replace hF := hF.ext hE
    replace rw_ := rw_.ext hE
    clear hE
    refine ⟨hF, ?_⟩
    refine f_free rfl (v := .int .i64 (((sizeT (.node k t ks xs) : Nat) : Int) + 1)) (fun w hC => x_add rfl rfl (wrap_id (by omega) (by omega))) ?_
    refine f_free rfl (v := .bool false) (fun w hC => run_false (x_neq rfl rfl) (by omega)) ?_
    refine f_free rfl (v := .bool false) (fun w hC => x_move rfl) ?_
    refine f_free rfl (v := .agg #[.int .i64 (5), .string (bs ([])), .slice (none) (0) (0), .slice (some ⟨b2, 0, none⟩) (1) (1)]) (fun w hC => x_loadS (l := [.int .i64 (5), .string (bs ([])), .slice (none) (0) (0), .slice (some ⟨b2, 0, none⟩) (1) (1)]) Tryz.isAgg25 Tryz.sizeOf25 rfl rfl (hC.cellsAll 0 rfl)) ?_
    refine f_free rfl (v := .agg #[.int .i64 (k), .string (bs (t)), .slice (A) (ks.length) (c), .slice (B) (xs.length) (e)]) (fun w hC => x_loadS (l := [.int .i64 (k), .string (bs (t)), .slice (A) (ks.length) (c), .slice (B) (xs.length) (e)]) Tryz.isAgg25 Tryz.sizeOf25 rfl rfl (hC.cellsAll 2 rfl)) ?_
    refine f_call rfl (depth_c (inRow (.node k t ks xs)) (by omega) _ _ _ rw_) (x_call1 en_36 rfl rfl) ?_
    rintro _ w ⟨rfl, hE⟩
    replace hF := hF.ext hE
    replace rw_ := rw_.ext hE
    clear hE
    refine ⟨hF, ?_⟩
    refine f_call rfl (depth_c (.node k t ks xs) (by omega) _ _ _ (hF.rep rx)) (x_call1 en_36 rfl rfl) ?_
    rintro _ w ⟨rfl, hE⟩
    replace hF := hF.ext hE
    replace rw_ := rw_.ext hE
    clear hE
    refine ⟨hF, ?_⟩
    refine f_free rfl (v := .int .i64 (((depthT (.node k t ks xs) : Nat) : Int) + 1)) (fun w hC => x_add rfl rfl (wrap_id (by omega) (by omega))) ?_
    refine f_free rfl (v := .bool false) (fun w hC => run_false (x_neq rfl rfl) (by omega)) ?_
    refine f_free rfl (v := .bool false) (fun w hC => x_pickf rfl rfl) ?_
    refine f_free rfl (v := .bool false) (fun w hC => x_move rfl) ?_
    refine f_free rfl (v := .agg #[.int .i64 (5), .string (bs ([])), .slice (none) (0) (0), .slice (some ⟨b2, 0, none⟩) (1) (1)]) (fun w hC => x_loadS (l := [.int .i64 (5), .string (bs ([])), .slice (none) (0) (0), .slice (some ⟨b2, 0, none⟩) (1) (1)]) Tryz.isAgg25 Tryz.sizeOf25 rfl rfl (hC.cellsAll 0 rfl)) ?_
    refine f_free rfl (v := .agg #[.int .i64 (k), .string (bs (t)), .slice (A) (ks.length) (c), .slice (B) (xs.length) (e)]) (fun w hC => x_loadS (l := [.int .i64 (k), .string (bs (t)), .slice (A) (ks.length) (c), .slice (B) (xs.length) (e)]) Tryz.isAgg25 Tryz.sizeOf25 rfl rfl (hC.cellsAll 2 rfl)) ?_
    refine f_call rfl (right_v (inRow (.node k t ks xs)) (by omega) _ _ _ rw_ kw (hG.ext hF.same)) (x_call1 en_31 rfl rfl) ?_
    rintro _ w ⟨rfl, hE⟩
    replace hF := hF.ext hE
    replace rw_ := rw_.ext hE
    clear hE
    refine ⟨hF, ?_⟩
    refine f_call rfl (right_v (.node k t ks xs) (by omega) _ _ _ (hF.rep rx) kx (hG.ext hF.same)) (x_call1 en_31 rfl rfl) ?_
    rintro _ w ⟨rfl, hE⟩
    replace hF := hF.ext hE
    replace rw_ := rw_.ext hE
    clear hE
    refine ⟨hF, ?_⟩
    refine f_free rfl (v := .bool (rightB (.node k t ks xs))) (fun w hC => x_move rfl) ?_
    refine d_split (d := 39) (b := rightB (.node k t ks xs)) rfl (fun hg0 => ?_) (fun hg0 => ?_)
    ·
      refine f_free rfl (v := .agg #[.int .i64 (k), .string (bs (t)), .slice (A) (ks.length) (c), .slice (B) (xs.length) (e)]) (fun w hC => x_loadS (l := [.int .i64 (k), .string (bs (t)), .slice (A) (ks.length) (c), .slice (B) (xs.length) (e)]) Tryz.isAgg25 Tryz.sizeOf25 rfl rfl (hC.cellsAll 2 rfl)) ?_
      refine f_call rfl (depth_c (.node k t ks xs) (by omega) _ _ _ (hF.rep rx)) (x_call1 en_36 rfl rfl) ?_
      rintro _ w ⟨rfl, hE⟩
      replace hF := hF.ext hE
      replace rw_ := rw_.ext hE
      clear hE
      refine ⟨hF, ?_⟩
      refine f_free rfl (v := .bool (decide (((depthT (.node k t ks xs) : Nat) : Int) < (32 : Int)))) (fun w hC => x_lss rfl rfl) ?_
      refine f_free rfl (v := .bool (decide (((depthT (.node k t ks xs) : Nat) : Int) < (32 : Int)))) (fun w hC => x_pickt rfl rfl) ?_
      refine f_free rfl (v := .bool false) (fun w hC => run_bool (x_neqb Tryz.underlying4 rfl rfl) (by rw [e3]; first | (rw [(by assumption : rightB (.node k t ks xs) = true), e5]; simp) | (rw [(by assumption : rightB (.node k t ks xs) = false)]; rfl))) ?_
      refine f_free rfl (v := .bool false) (fun w hC => x_pickf rfl rfl) ?_
      refine d_nil ?_
      refine e_seq ?_
      refine c_iff rfl ?_
      refine c_skip ?_
      refine e_seq ?_
      refine c_seq ?_
      refine c_seq ?_
      refine c_region ?_
      refine o_val (v := .agg #[.int .i64 (k), .string (bs (t)), .slice (A) (ks.length) (c), .slice (B) (xs.length) (e)]) (x_loadS (l := [.int .i64 (k), .string (bs (t)), .slice (A) (ks.length) (c), .slice (B) (xs.length) (e)]) Tryz.isAgg25 Tryz.sizeOf25 rfl rfl (hF.cellsAll 2 rfl)) ?_
      refine o_call (open_v (.node k t ks xs) (by omega) _ _ _ (hF.rep rx) kx (hG.ext hF.same)) (x_call1 en_33 rfl rfl) ?_
      rintro _ w ⟨rfl, hE⟩
      replace hF := hF.ext hE
      clear hE
      refine o_val (v := .bool (!(openB (.node k t ks xs)))) (x_not rfl) ?_
      refine o_val (v := .bool (!(openB (.node k t ks xs)))) (x_move rfl) ?_
      refine o_split (d := 49) (b := !(openB (.node k t ks xs))) rfl (fun hg1 => ?_) (fun hg1 => ?_)
      ·
        refine o_off ?_
        refine o_off ?_
        refine o_off ?_
        refine o_val (v := .bool true) (x_pickt rfl rfl) ?_
        refine o_nil ?_
        refine e_seq ?_
        refine c_ift rfl ?_
        refine c_seq ?_
        refine c_region ?_
        refine o_val (v := .agg #[.int .i64 (k), .string (bs (t)), .slice (A) (ks.length) (c), .slice (B) (xs.length) (e)]) (x_loadS (l := [.int .i64 (k), .string (bs (t)), .slice (A) (ks.length) (c), .slice (B) (xs.length) (e)]) Tryz.isAgg25 Tryz.sizeOf25 rfl rfl (hF.cellsAll 2 rfl)) ?_
        have hg : getV (.node k t ks xs) [97] = (zeroT, false) := getV_not (fun hh => by obtain ⟨h1, h2⟩ := hh; have h3 : k = 6 := h2; first | exact absurd h3 (by assumption) | (have h4 : (!openB (.node k t ks xs)) = true := (by assumption); rw [h1] at h4; cases h4))
        refine o_call (getV_c k t ks xs [97] (by omega) _ _ _ (hF.rep rx) kx (hG.ext hF.same)) (x_call2 en_28 rfl rfl rfl) ?_
        rintro _ w ⟨ct, rfl, hRt, hE⟩
        rw [hg] at hRt ⊢
        have hlt : ct.length = 4 := hRt.length.trans (size_treeD _)
        have hot := hRt.one_
        have hXX := RX.made (ids := [b3, b2, b1]) hF.same.size (fun x hx => hF.lt_ids (by grind)) hRt
        replace hF := hF.ext hE
        clear hE hRt
        refine o_val (v := .tuple #[.agg (List.toArray ct), .bool false]) (x_move rfl) ?_
        refine o_val (v := .agg (List.toArray ct)) (x_extract rfl rfl) ?_
        refine o_val (v := .bool false) (x_extract rfl rfl) ?_
        refine o_lay (l := ct) hF Tryz.zeroValue25 (by rw [hlt]; exact Tryz.sizeOf25) (by rw [hlt]; rfl) (v := .agg (List.toArray ct)) rfl rfl (hot) rfl ?_
        clear hF; intro b4 w hb4 hF hE
        replace hXX := hXX.alloc hE hb4
        clear hE
        refine o_val (v := .bool false) (x_assign rfl) ?_
        refine o_nil ?_
        refine e_seq ?_
        refine c_seq ?_
        refine c_region ?_
        refine o_val (v := .bool true) (x_move rfl) ?_
        refine o_val (v := .bool true) (x_move rfl) ?_
        refine o_val (v := .bool false) (x_move rfl) ?_
        refine o_val (v := .bool true) (x_not (b := false) rfl) ?_
        refine o_val (v := .bool true) (x_pickt rfl rfl) ?_
        refine o_val (v := .bool true) (x_assign rfl) ?_
        refine o_nil ?_
        refine e_seq ?_
        refine c_ret (e_ret (post_ret (res_1 (v := .bool true) rfl rfl) ?_))
        exact ⟨rfl, hF.same⟩
      ·
        refine o_val (v := .pointer (some ⟨b1, 0, none⟩)) (x_fieldAddrO fa_25_0 rfl) ?_
        refine o_val (v := .int .i64 (k)) (x_load Tryz.isAgg3 rfl (hF.cell 2 rfl rfl)) ?_
        refine o_val (v := .bool (decide ((k : Int) ≠ (6 : Int)))) (x_neq rfl rfl) ?_
        refine o_val (v := .bool (decide ((k : Int) ≠ (6 : Int)))) (x_pickf rfl rfl) ?_
        refine o_nil ?_
        refine e_seq ?_
        refine c_splitd (d := 53) (p := (k : Int) ≠ (6 : Int)) rfl (fun hc2 => ?_) (fun hc2 => ?_)
        ·
          refine c_ift rfl ?_
          refine c_seq ?_
          refine c_region ?_
          refine o_val (v := .agg #[.int .i64 (k), .string (bs (t)), .slice (A) (ks.length) (c), .slice (B) (xs.length) (e)]) (x_loadS (l := [.int .i64 (k), .string (bs (t)), .slice (A) (ks.length) (c), .slice (B) (xs.length) (e)]) Tryz.isAgg25 Tryz.sizeOf25 rfl rfl (hF.cellsAll 2 rfl)) ?_
          have hg : getV (.node k t ks xs) [97] = (zeroT, false) := getV_not (fun hh => by obtain ⟨h1, h2⟩ := hh; have h3 : k = 6 := h2; first | exact absurd h3 (by assumption) | (have h4 : (!openB (.node k t ks xs)) = true := (by assumption); rw [h1] at h4; cases h4))
          refine o_call (getV_c k t ks xs [97] (by omega) _ _ _ (hF.rep rx) kx (hG.ext hF.same)) (x_call2 en_28 rfl rfl rfl) ?_
          rintro _ w ⟨ct, rfl, hRt, hE⟩
          rw [hg] at hRt ⊢
          have hlt : ct.length = 4 := hRt.length.trans (size_treeD _)
          have hot := hRt.one_
          have hXX := RX.made (ids := [b3, b2, b1]) hF.same.size (fun x hx => hF.lt_ids (by grind)) hRt
          replace hF := hF.ext hE
          clear hE hRt
          refine o_val (v := .tuple #[.agg (List.toArray ct), .bool false]) (x_move rfl) ?_
          refine o_val (v := .agg (List.toArray ct)) (x_extract rfl rfl) ?_
          refine o_val (v := .bool false) (x_extract rfl rfl) ?_
          refine o_lay (l := ct) hF Tryz.zeroValue25 (by rw [hlt]; exact Tryz.sizeOf25) (by rw [hlt]; rfl) (v := .agg (List.toArray ct)) rfl rfl (hot) rfl ?_
          clear hF; intro b5 w hb5 hF hE
          replace hXX := hXX.alloc hE hb5
          clear hE
          refine o_val (v := .bool false) (x_assign rfl) ?_
          refine o_nil ?_
          refine e_seq ?_
          refine c_seq ?_
          refine c_region ?_
          refine o_val (v := .bool true) (x_move rfl) ?_
          refine o_val (v := .bool true) (x_move rfl) ?_
          refine o_val (v := .bool false) (x_move rfl) ?_
          refine o_val (v := .bool true) (x_not (b := false) rfl) ?_
          refine o_val (v := .bool true) (x_pickt rfl rfl) ?_
          refine o_val (v := .bool true) (x_assign rfl) ?_
          refine o_nil ?_
          refine e_seq ?_
          refine c_ret (e_ret (post_ret (res_1 (v := .bool true) rfl rfl) ?_))
          exact ⟨rfl, hF.same⟩
        ·
          refine c_iff rfl ?_
          refine c_skip ?_
          refine e_seq ?_
          refine c_seq ?_
          refine c_seq ?_
          refine c_region ?_
          refine o_val (v := .int .i64 (0)) (x_assign rfl) ?_
          refine o_nil ?_
          refine e_seq ?_
          refine c_block ?_
          refine c_loop (fun μ σ w => ∃ (j : Nat), μ = ks.length - j ∧ (j ≤ ks.length) ∧ AllEq σ [(1, .pointer (some ⟨b1, 0, none⟩)), (3, .bool true), (8, .int .i64 ((j : Int)))] ∧ FR w0 [] [(b3, .cells #[.int .i64 (5), .string (bs ([])), .slice (none) (0) (0), .slice (some ⟨b2, 0, none⟩) (1) (1)] 25), (b2, .cells #[.int .i64 (k), .string (bs (t)), .slice (A) (ks.length) (c), .slice (B) (xs.length) (e)] 25), (b1, .cells #[.int .i64 (k), .string (bs (t)), .slice (A) (ks.length) (c), .slice (B) (xs.length) (e)] 25)] w) _ ⟨0, rfl, (Nat.zero_le _), ⟨rfl, rfl, rfl, trivial⟩, hF⟩ ?_
          clear hF; rintro μ σ w ⟨j, rfl, hj, hs, hF⟩
          refine Cg.slots hs ?_
          clear hs; intro σ
          refine c_seq ?_
          refine c_seq ?_
          refine c_region ?_
          refine o_val (v := .int .i64 ((j : Int))) (x_move rfl) ?_
          refine o_val (v := .pointer (some ⟨b1, 2, none⟩)) (x_fieldAddrO fa_25_2 rfl) ?_
          refine o_val (v := .slice (A) (ks.length) (c)) (x_load Tryz.isAgg22 rfl (hF.cell 2 rfl rfl)) ?_
          refine o_val (v := .int .i64 ((ks.length : Nat))) (x_len_slice Tryz.underlying22 rfl) ?_
          refine o_val (v := .bool (decide (((j : Int) : Int) < ((ks.length : Nat) : Int)))) (x_lss rfl rfl) ?_
          refine o_nil ?_
          refine e_seq ?_
          refine c_splitd (d := 68) (p := ((j : Int) : Int) < ((ks.length : Nat) : Int)) rfl (fun hc3 => ?_) (fun hc3 => ?_)
          ·
            refine c_ift rfl ?_
            refine c_skip ?_
            refine e_seq ?_
            refine c_seq ?_
            refine c_block ?_
            have k6 : k = 6 := by omega
            have ho_ : openB (.node k t ks xs) = true := by have h4 : (!openB (.node k t ks xs)) = false := (by assumption); simpa using h4
            have hlen : ks.length = xs.length := (node6 (k6 ▸ (allT_node (open_all ho_)).1)).2
            have hjx : j < xs.length := by omega
            refine c_seq ?_
            refine c_join (fun σ w => ∃ (b9 : Nat), ∃ (ct : List Value), (ct.length = 4) ∧ (∀ v ∈ ct, one v = true) ∧ (Rep (fun _ => True) w (treeD xs[j]) ct) ∧ AllEq σ [(1, .pointer (some ⟨b1, 0, none⟩)), (3, .bool true), (8, .int .i64 ((j : Int))), (9, .pointer (some ⟨b9, 0, none⟩)), (10, .bool true)] ∧ FR w0 [] [(b9, .cells (List.toArray ct) 25), (b3, .cells #[.int .i64 (5), .string (bs ([])), .slice (none) (0) (0), .slice (some ⟨b2, 0, none⟩) (1) (1)] 25), (b2, .cells #[.int .i64 (k), .string (bs (t)), .slice (A) (ks.length) (c), .slice (B) (xs.length) (e)] 25), (b1, .cells #[.int .i64 (k), .string (bs (t)), .slice (A) (ks.length) (c), .slice (B) (xs.length) (e)] 25)] w) ?_ ?_
            ·
              refine c_drawF [] (.free 0 (.free 1 (.free 2 (.free 3 (.free 4 (.free 5 (.alt 6 (.free 7 (.free 8 (.free 9 (.act 10 (.act 11 (.free 12 .nil)))))) (.act 10 (.act 6 (.free 7 (.free 8 (.free 9 (.act 11 (.free 12 .nil)))))))))))))) (by kernel_rfl) hF (by kernel_rfl) (by kernel_rfl) ?_
              clear hF; intro w hF hE
              clear hE
              refine ⟨fun wq => FR w0 [] [(b3, .cells #[.int .i64 (5), .string (bs ([])), .slice (none) (0) (0), .slice (some ⟨b2, 0, none⟩) (1) (1)] 25), (b2, .cells #[.int .i64 (k), .string (bs (t)), .slice (A) (ks.length) (c), .slice (B) (xs.length) (e)] 25), (b1, .cells #[.int .i64 (k), .string (bs (t)), .slice (A) (ks.length) (c), .slice (B) (xs.length) (e)] 25)] wq, hF, ?_⟩
              refine f_free rfl (v := .agg #[.int .i64 (k), .string (bs (t)), .slice (A) (ks.length) (c), .slice (B) (xs.length) (e)]) (fun w hC => x_loadS (l := [.int .i64 (k), .string (bs (t)), .slice (A) (ks.length) (c), .slice (B) (xs.length) (e)]) Tryz.isAgg25 Tryz.sizeOf25 rfl rfl (hC.cellsAll 2 rfl)) ?_
              refine f_free rfl (v := .pointer (some ⟨b1, 2, none⟩)) (fun w hC => x_fieldAddrO fa_25_2 rfl) ?_
              refine f_free rfl (v := .slice (A) (ks.length) (c)) (fun w hC => x_load Tryz.isAgg22 rfl (hC.cell 2 rfl rfl)) ?_
              refine f_free rfl (v := .int .i64 ((j : Int))) (fun w hC => x_move rfl) ?_
              obtain ⟨ad2, hA2, hk2, hx2⟩ := hK.str_elem (i := j) (by omega)
              refine f_free rfl (v := .pointer (some (ad2.add (j * 1)))) (fun w hC => x_indexAddrA (i := (j : Int)) sl_22 rfl hA2 rfl (by omega) (by omega)) ?_
              refine f_free rfl (v := .string (bs (ks[j]))) (fun w hC => x_load Tryz.isAgg9 rfl (hC.cell0 hk2)) ?_
              refine d_alt ?_ ?_
              ·
                have hg : getV (.node k t ks xs) ks[j] = (xs[j], true) := by subst k6; exact getV_at ho_ (by omega) (by omega)
                refine f_call rfl (getV_c k t ks xs ks[j] (by omega) _ _ _ (hF.rep rx) kx (hG.ext hF.same)) (x_call2 en_28 rfl rfl rfl) ?_
                rintro _ w ⟨ct, rfl, hRt, hE⟩
                rw [hg] at hRt ⊢
                have hlt : ct.length = 4 := hRt.length.trans (size_treeD _)
                have hot := hRt.one_
                have hXX := RX.made (ids := [b3, b2, b1]) hF.same.size (fun x hx => hF.lt_ids (by grind)) hRt
                replace hF := hF.ext hE
                clear hE hRt
                refine ⟨hF, ?_⟩
                refine f_free rfl (v := .tuple #[.agg (List.toArray ct), .bool true]) (fun w hC => x_move rfl) ?_
                refine f_free rfl (v := .agg (List.toArray ct)) (fun w hC => x_extract rfl rfl) ?_
                refine f_free rfl (v := .bool true) (fun w hC => x_extract rfl rfl) ?_
                refine f_new rfl (v := fun b => .pointer (some ⟨b, 0, none⟩)) (o := .cells #[.int .i64 (0), .string (bs ([])), .slice (none) (0) (0), .slice (none) (0) (0)] 25) hF (x_alloc Tryz.zeroValue25) ?_
                clear hF; intro b6 w hb6 hF hE
                replace hXX := hXX.alloc hE hb6
                clear hE
                refine ⟨hF.sub (.cons _ (.cons_cons _ (.cons_cons _ (.cons_cons _ .slnil)))), ?_⟩
                refine f_store rfl 0 (l := ct) (cs' := (List.toArray ct)) hF (by rw [hlt]; exact Tryz.sizeOf25) rfl (v := .agg (List.toArray ct)) rfl rfl (hot) rfl (by rw [hlt]; exact Nat.le_of_ble_eq_true rfl) (putA_all (by rw [hlt]; rfl)) ?_
                clear hF; intro w hF hE
                replace hXX := hXX.store hE (by grind)
                clear hE
                replace hF : FR w0 [] [(b6, .cells (List.toArray ct) 25), (b3, .cells #[.int .i64 (5), .string (bs ([])), .slice (none) (0) (0), .slice (some ⟨b2, 0, none⟩) (1) (1)] 25), (b2, .cells #[.int .i64 (k), .string (bs (t)), .slice (A) (ks.length) (c), .slice (B) (xs.length) (e)] 25), (b1, .cells #[.int .i64 (k), .string (bs (t)), .slice (A) (ks.length) (c), .slice (B) (xs.length) (e)] 25)] w := hF
                refine ⟨hF.sub (.cons _ (.cons_cons _ (.cons_cons _ (.cons_cons _ .slnil)))), ?_⟩
                refine f_free rfl (v := .bool true) (fun w hC => x_assign rfl) ?_
                refine d_nil ?_
                exact e_inv ⟨(b6), (ct), (hlt), (hot), (hXX.rep.all), ⟨rfl, rfl, rfl, rfl, rfl, trivial⟩, ((((hF.front 3 rfl).front 3 rfl).front 3 rfl).front 3 rfl)⟩
              ·
                refine f_new rfl (v := fun b => .pointer (some ⟨b, 0, none⟩)) (o := .cells #[.int .i64 (0), .string (bs ([])), .slice (none) (0) (0), .slice (none) (0) (0)] 25) hF (x_alloc Tryz.zeroValue25) ?_
                clear hF; intro b7 w hb7 hF hE
                clear hE
                refine ⟨hF.sub (.cons _ (.cons_cons _ (.cons_cons _ (.cons_cons _ .slnil)))), ?_⟩
                have hg : getV (.node k t ks xs) ks[j] = (xs[j], true) := by subst k6; exact getV_at ho_ (by omega) (by omega)
                refine f_call rfl (getV_c k t ks xs ks[j] (by omega) _ _ _ (hF.rep rx) kx (hG.ext hF.same)) (x_call2 en_28 rfl rfl rfl) ?_
                rintro _ w ⟨ct, rfl, hRt, hE⟩
                rw [hg] at hRt ⊢
                have hlt : ct.length = 4 := hRt.length.trans (size_treeD _)
                have hot := hRt.one_
                have hXX := RX.made (ids := [b7, b3, b2, b1]) hF.same.size (fun x hx => hF.lt_ids (by grind)) hRt
                replace hF := hF.ext hE
                clear hE hRt
                refine ⟨hF.sub (.cons _ (.cons_cons _ (.cons_cons _ (.cons_cons _ .slnil)))), ?_⟩
                refine f_free rfl (v := .tuple #[.agg (List.toArray ct), .bool true]) (fun w hC => x_move rfl) ?_
                refine f_free rfl (v := .agg (List.toArray ct)) (fun w hC => x_extract rfl rfl) ?_
                refine f_free rfl (v := .bool true) (fun w hC => x_extract rfl rfl) ?_
                refine f_store rfl 0 (l := ct) (cs' := (List.toArray ct)) hF (by rw [hlt]; exact Tryz.sizeOf25) rfl (v := .agg (List.toArray ct)) rfl rfl (hot) rfl (by rw [hlt]; exact Nat.le_of_ble_eq_true rfl) (putA_all (by rw [hlt]; rfl)) ?_
                clear hF; intro w hF hE
                replace hXX := hXX.store hE (by grind)
                clear hE
                replace hF : FR w0 [] [(b7, .cells (List.toArray ct) 25), (b3, .cells #[.int .i64 (5), .string (bs ([])), .slice (none) (0) (0), .slice (some ⟨b2, 0, none⟩) (1) (1)] 25), (b2, .cells #[.int .i64 (k), .string (bs (t)), .slice (A) (ks.length) (c), .slice (B) (xs.length) (e)] 25), (b1, .cells #[.int .i64 (k), .string (bs (t)), .slice (A) (ks.length) (c), .slice (B) (xs.length) (e)] 25)] w := hF
                refine ⟨hF.sub (.cons _ (.cons_cons _ (.cons_cons _ (.cons_cons _ .slnil)))), ?_⟩
                refine f_free rfl (v := .bool true) (fun w hC => x_assign rfl) ?_
                refine d_nil ?_
                exact e_inv ⟨(b7), (ct), (hlt), (hot), (hXX.rep.all), ⟨rfl, rfl, rfl, rfl, rfl, trivial⟩, ((((hF.front 3 rfl).front 3 rfl).front 3 rfl).front 3 rfl)⟩
            clear hF; rintro σ w ⟨b9, ct, hlt, hot, hRt, hs, hF⟩
            refine Eg.slots hs ?_
            clear hs; intro σ
            refine e_seq ?_
            refine c_seq ?_
            refine c_drawF [] (.free 0 (.free 1 (.free 2 (.free 3 (.free 4 (.free 5 (.free 6 (.free 7 (.free 8 (.act 9 (.free 10 (.free 11 .nil)))))))))))) (by kernel_rfl) hF (by kernel_rfl) (by kernel_rfl) ?_
            clear hF; intro w hF hE
            replace hRt := hRt.ext hE
            clear hE
            refine ⟨fun wq => FR w0 [] [(b9, .cells (List.toArray ct) 25), (b3, .cells #[.int .i64 (5), .string (bs ([])), .slice (none) (0) (0), .slice (some ⟨b2, 0, none⟩) (1) (1)] 25), (b2, .cells #[.int .i64 (k), .string (bs (t)), .slice (A) (ks.length) (c), .slice (B) (xs.length) (e)] 25), (b1, .cells #[.int .i64 (k), .string (bs (t)), .slice (A) (ks.length) (c), .slice (B) (xs.length) (e)] 25)] wq, hF, ?_⟩
            refine f_free rfl (v := .bool true) (fun w hC => x_move rfl) ?_
            refine f_free rfl (v := .bool false) (fun w hC => x_not (b := true) rfl) ?_
            refine f_free rfl (v := .bool false) (fun w hC => x_move rfl) ?_
            refine f_free rfl (v := .agg (List.toArray ct)) (fun w hC => x_loadS (l := ct) Tryz.isAgg25 Tryz.sizeOf25 rfl hlt (hC.cellsAll 0 rfl)) ?_
            refine f_free rfl (v := .pointer (some ⟨b1, 3, none⟩)) (fun w hC => x_fieldAddrO fa_25_3 rfl) ?_
            refine f_free rfl (v := .slice (B) (xs.length) (e)) (fun w hC => x_load Tryz.isAgg23 rfl (hC.cell 3 rfl rfl)) ?_
            refine f_free rfl (v := .int .i64 ((j : Int))) (fun w hC => x_move rfl) ?_
            obtain ⟨ad3, cs3, hA3, hl3, hk3, hx3⟩ := hX.tree_elem (i := j) (by omega)
            have ho3 := hx3.one_
            refine f_free rfl (v := .pointer (some (ad3.add (j * 4)))) (fun w hC => x_indexAddrA (i := (j : Int)) sl_23 rfl hA3 rfl (by omega) (by omega)) ?_
            refine f_free rfl (v := .agg (List.toArray cs3)) (fun w hC => x_loadS (l := cs3) Tryz.isAgg25 Tryz.sizeOf25 rfl hl3 (hC.cells0 hk3)) ?_
            refine f_call rfl (ret_eq (v' := .bool true) (equal_c xs[j] xs[j] _ _ _ ct cs3 hRt (hF.rep hx3)) (congrArg Value.bool (eqT_self _))) (x_call2 en_22 rfl rfl rfl) ?_
            rintro _ w ⟨rfl, hE⟩
            replace hF := hF.ext hE
            replace hRt := hRt.ext hE
            clear hE
            refine ⟨hF, ?_⟩
            refine f_free rfl (v := .bool false) (fun w hC => x_not (b := true) rfl) ?_
            refine f_free rfl (v := .bool false) (fun w hC => x_pickf rfl rfl) ?_
            refine d_nil ?_
            refine e_seq ?_
            refine c_iff rfl ?_
            refine c_skip ?_
            refine e_block ?_
            refine e_seq ?_
            refine c_region ?_
            refine o_val (v := .int .i64 ((j : Int))) (x_move rfl) ?_
            refine o_val (v := .int .i64 (((j : Int) : Int) + 1)) (x_add rfl rfl (wrap_id (by omega) (by omega))) ?_
            refine o_val (v := .int .i64 (((j : Int) : Int) + 1)) (x_assign rfl) ?_
            refine o_nil ?_
            refine e_inv ⟨_, ?_, j + 1, rfl, (by omega), ⟨rfl, rfl, rfl, trivial⟩, hF.drop 1⟩
            omega
          ·
            refine c_iff rfl ?_
            refine c_exit (e_exit rfl ?_)
            refine e_seq ?_
            refine c_seq ?_
            refine c_region ?_
            refine o_val (v := .bool true) (x_move rfl) ?_
            refine o_val (v := .bool true) (x_assign rfl) ?_
            refine o_nil ?_
            refine e_seq ?_
            refine c_ret (e_ret (post_ret (res_1 (v := .bool true) rfl rfl) ?_))
            exact ⟨rfl, hF.same⟩
    ·
      refine f_off rfl ?_
      refine f_skip rfl ?_ (hF)
      refine f_off rfl ?_
      refine f_free rfl (v := .bool false) (fun w hC => x_pickf rfl rfl) ?_
      refine f_free rfl (v := .bool false) (fun w hC => run_bool (x_neqb Tryz.underlying4 rfl rfl) (by rw [e3]; first | (rw [(by assumption : rightB (.node k t ks xs) = true), e5]; simp) | (rw [(by assumption : rightB (.node k t ks xs) = false)]; rfl))) ?_
      refine f_free rfl (v := .bool false) (fun w hC => x_pickf rfl rfl) ?_
      refine d_nil ?_
      refine e_seq ?_
      refine c_iff rfl ?_
      refine c_skip ?_
      refine e_seq ?_
      refine c_seq ?_
      refine c_seq ?_
      refine c_region ?_
      refine o_val (v := .agg #[.int .i64 (k), .string (bs (t)), .slice (A) (ks.length) (c), .slice (B) (xs.length) (e)]) (x_loadS (l := [.int .i64 (k), .string (bs (t)), .slice (A) (ks.length) (c), .slice (B) (xs.length) (e)]) Tryz.isAgg25 Tryz.sizeOf25 rfl rfl (hF.cellsAll 2 rfl)) ?_
      refine o_call (open_v (.node k t ks xs) (by omega) _ _ _ (hF.rep rx) kx (hG.ext hF.same)) (x_call1 en_33 rfl rfl) ?_
      rintro _ w ⟨rfl, hE⟩
      replace hF := hF.ext hE
      clear hE
      refine o_val (v := .bool (!(openB (.node k t ks xs)))) (x_not rfl) ?_
      refine o_val (v := .bool (!(openB (.node k t ks xs)))) (x_move rfl) ?_
      refine o_split (d := 49) (b := !(openB (.node k t ks xs))) rfl (fun hg4 => ?_) (fun hg4 => ?_)
      ·
        refine o_off ?_
        refine o_off ?_
        refine o_off ?_
        refine o_val (v := .bool true) (x_pickt rfl rfl) ?_
        refine o_nil ?_
        refine e_seq ?_
        refine c_ift rfl ?_
        refine c_seq ?_
        refine c_region ?_
        refine o_val (v := .agg #[.int .i64 (k), .string (bs (t)), .slice (A) (ks.length) (c), .slice (B) (xs.length) (e)]) (x_loadS (l := [.int .i64 (k), .string (bs (t)), .slice (A) (ks.length) (c), .slice (B) (xs.length) (e)]) Tryz.isAgg25 Tryz.sizeOf25 rfl rfl (hF.cellsAll 2 rfl)) ?_
        have hg : getV (.node k t ks xs) [97] = (zeroT, false) := getV_not (fun hh => by obtain ⟨h1, h2⟩ := hh; have h3 : k = 6 := h2; first | exact absurd h3 (by assumption) | (have h4 : (!openB (.node k t ks xs)) = true := (by assumption); rw [h1] at h4; cases h4))
        refine o_call (getV_c k t ks xs [97] (by omega) _ _ _ (hF.rep rx) kx (hG.ext hF.same)) (x_call2 en_28 rfl rfl rfl) ?_
        rintro _ w ⟨ct, rfl, hRt, hE⟩
        rw [hg] at hRt ⊢
        have hlt : ct.length = 4 := hRt.length.trans (size_treeD _)
        have hot := hRt.one_
        have hXX := RX.made (ids := [b3, b2, b1]) hF.same.size (fun x hx => hF.lt_ids (by grind)) hRt
        replace hF := hF.ext hE
        clear hE hRt
        refine o_val (v := .tuple #[.agg (List.toArray ct), .bool false]) (x_move rfl) ?_
        refine o_val (v := .agg (List.toArray ct)) (x_extract rfl rfl) ?_
        refine o_val (v := .bool false) (x_extract rfl rfl) ?_
        refine o_lay (l := ct) hF Tryz.zeroValue25 (by rw [hlt]; exact Tryz.sizeOf25) (by rw [hlt]; rfl) (v := .agg (List.toArray ct)) rfl rfl (hot) rfl ?_
        clear hF; intro b8 w hb8 hF hE
        replace hXX := hXX.alloc hE hb8
        clear hE
        refine o_val (v := .bool false) (x_assign rfl) ?_
        refine o_nil ?_
        refine e_seq ?_
        refine c_seq ?_
        refine c_region ?_
        refine o_val (v := .bool true) (x_move rfl) ?_
        refine o_val (v := .bool true) (x_move rfl) ?_
        refine o_val (v := .bool false) (x_move rfl) ?_
        refine o_val (v := .bool true) (x_not (b := false) rfl) ?_
        refine o_val (v := .bool true) (x_pickt rfl rfl) ?_
        refine o_val (v := .bool true) (x_assign rfl) ?_
        refine o_nil ?_
        refine e_seq ?_
        refine c_ret (e_ret (post_ret (res_1 (v := .bool true) rfl rfl) ?_))
        exact ⟨rfl, hF.same⟩
      ·
        refine o_val (v := .pointer (some ⟨b1, 0, none⟩)) (x_fieldAddrO fa_25_0 rfl) ?_
        refine o_val (v := .int .i64 (k)) (x_load Tryz.isAgg3 rfl (hF.cell 2 rfl rfl)) ?_
        refine o_val (v := .bool (decide ((k : Int) ≠ (6 : Int)))) (x_neq rfl rfl) ?_
        refine o_val (v := .bool (decide ((k : Int) ≠ (6 : Int)))) (x_pickf rfl rfl) ?_
        refine o_nil ?_
        refine e_seq ?_
        refine c_splitd (d := 53) (p := (k : Int) ≠ (6 : Int)) rfl (fun hc2 => ?_) (fun hc2 => ?_)
        ·
          refine c_ift rfl ?_
          refine c_seq ?_
          refine c_region ?_
          refine o_val (v := .agg #[.int .i64 (k), .string (bs (t)), .slice (A) (ks.length) (c), .slice (B) (xs.length) (e)]) (x_loadS (l := [.int .i64 (k), .string (bs (t)), .slice (A) (ks.length) (c), .slice (B) (xs.length) (e)]) Tryz.isAgg25 Tryz.sizeOf25 rfl rfl (hF.cellsAll 2 rfl)) ?_
          have hg : getV (.node k t ks xs) [97] = (zeroT, false) := getV_not (fun hh => by obtain ⟨h1, h2⟩ := hh; have h3 : k = 6 := h2; first | exact absurd h3 (by assumption) | (have h4 : (!openB (.node k t ks xs)) = true := (by assumption); rw [h1] at h4; cases h4))
          refine o_call (getV_c k t ks xs [97] (by omega) _ _ _ (hF.rep rx) kx (hG.ext hF.same)) (x_call2 en_28 rfl rfl rfl) ?_
          rintro _ w ⟨ct, rfl, hRt, hE⟩
          rw [hg] at hRt ⊢
          have hlt : ct.length = 4 := hRt.length.trans (size_treeD _)
          have hot := hRt.one_
          have hXX := RX.made (ids := [b3, b2, b1]) hF.same.size (fun x hx => hF.lt_ids (by grind)) hRt
          replace hF := hF.ext hE
          clear hE hRt
          refine o_val (v := .tuple #[.agg (List.toArray ct), .bool false]) (x_move rfl) ?_
          refine o_val (v := .agg (List.toArray ct)) (x_extract rfl rfl) ?_
          refine o_val (v := .bool false) (x_extract rfl rfl) ?_
          refine o_lay (l := ct) hF Tryz.zeroValue25 (by rw [hlt]; exact Tryz.sizeOf25) (by rw [hlt]; rfl) (v := .agg (List.toArray ct)) rfl rfl (hot) rfl ?_
          clear hF; intro b9 w hb9 hF hE
          replace hXX := hXX.alloc hE hb9
          clear hE
          refine o_val (v := .bool false) (x_assign rfl) ?_
          refine o_nil ?_
          refine e_seq ?_
          refine c_seq ?_
          refine c_region ?_
          refine o_val (v := .bool true) (x_move rfl) ?_
          refine o_val (v := .bool true) (x_move rfl) ?_
          refine o_val (v := .bool false) (x_move rfl) ?_
          refine o_val (v := .bool true) (x_not (b := false) rfl) ?_
          refine o_val (v := .bool true) (x_pickt rfl rfl) ?_
          refine o_val (v := .bool true) (x_assign rfl) ?_
          refine o_nil ?_
          refine e_seq ?_
          refine c_ret (e_ret (post_ret (res_1 (v := .bool true) rfl rfl) ?_))
          exact ⟨rfl, hF.same⟩
        ·
          refine c_iff rfl ?_
          refine c_skip ?_
          refine e_seq ?_
          refine c_seq ?_
          refine c_seq ?_
          refine c_region ?_
          refine o_val (v := .int .i64 (0)) (x_assign rfl) ?_
          refine o_nil ?_
          refine e_seq ?_
          refine c_block ?_
          refine c_loop (fun μ σ w => ∃ (j : Nat), μ = ks.length - j ∧ (j ≤ ks.length) ∧ AllEq σ [(1, .pointer (some ⟨b1, 0, none⟩)), (3, .bool true), (8, .int .i64 ((j : Int)))] ∧ FR w0 [] [(b3, .cells #[.int .i64 (5), .string (bs ([])), .slice (none) (0) (0), .slice (some ⟨b2, 0, none⟩) (1) (1)] 25), (b2, .cells #[.int .i64 (k), .string (bs (t)), .slice (A) (ks.length) (c), .slice (B) (xs.length) (e)] 25), (b1, .cells #[.int .i64 (k), .string (bs (t)), .slice (A) (ks.length) (c), .slice (B) (xs.length) (e)] 25)] w) _ ⟨0, rfl, (Nat.zero_le _), ⟨rfl, rfl, rfl, trivial⟩, hF⟩ ?_
          clear hF; rintro μ σ w ⟨j, rfl, hj, hs, hF⟩
          refine Cg.slots hs ?_
          clear hs; intro σ
          refine c_seq ?_
          refine c_seq ?_
          refine c_region ?_
          refine o_val (v := .int .i64 ((j : Int))) (x_move rfl) ?_
          refine o_val (v := .pointer (some ⟨b1, 2, none⟩)) (x_fieldAddrO fa_25_2 rfl) ?_
          refine o_val (v := .slice (A) (ks.length) (c)) (x_load Tryz.isAgg22 rfl (hF.cell 2 rfl rfl)) ?_
          refine o_val (v := .int .i64 ((ks.length : Nat))) (x_len_slice Tryz.underlying22 rfl) ?_
          refine o_val (v := .bool (decide (((j : Int) : Int) < ((ks.length : Nat) : Int)))) (x_lss rfl rfl) ?_
          refine o_nil ?_
          refine e_seq ?_
          refine c_splitd (d := 68) (p := ((j : Int) : Int) < ((ks.length : Nat) : Int)) rfl (fun hc3 => ?_) (fun hc3 => ?_)
          ·
            refine c_ift rfl ?_
            refine c_skip ?_
            refine e_seq ?_
            refine c_seq ?_
            refine c_block ?_
            have k6 : k = 6 := by omega
            have ho_ : openB (.node k t ks xs) = true := by have h4 : (!openB (.node k t ks xs)) = false := (by assumption); simpa using h4
            have hlen : ks.length = xs.length := (node6 (k6 ▸ (allT_node (open_all ho_)).1)).2
            have hjx : j < xs.length := by omega
            refine c_seq ?_
            refine c_join (fun σ w => ∃ (b9 : Nat), ∃ (ct : List Value), (ct.length = 4) ∧ (∀ v ∈ ct, one v = true) ∧ (Rep (fun _ => True) w (treeD xs[j]) ct) ∧ AllEq σ [(1, .pointer (some ⟨b1, 0, none⟩)), (3, .bool true), (8, .int .i64 ((j : Int))), (9, .pointer (some ⟨b9, 0, none⟩)), (10, .bool true)] ∧ FR w0 [] [(b9, .cells (List.toArray ct) 25), (b3, .cells #[.int .i64 (5), .string (bs ([])), .slice (none) (0) (0), .slice (some ⟨b2, 0, none⟩) (1) (1)] 25), (b2, .cells #[.int .i64 (k), .string (bs (t)), .slice (A) (ks.length) (c), .slice (B) (xs.length) (e)] 25), (b1, .cells #[.int .i64 (k), .string (bs (t)), .slice (A) (ks.length) (c), .slice (B) (xs.length) (e)] 25)] w) ?_ ?_
            ·
              refine c_drawF [] (.free 0 (.free 1 (.free 2 (.free 3 (.free 4 (.free 5 (.alt 6 (.free 7 (.free 8 (.free 9 (.act 10 (.act 11 (.free 12 .nil)))))) (.act 10 (.act 6 (.free 7 (.free 8 (.free 9 (.act 11 (.free 12 .nil)))))))))))))) (by kernel_rfl) hF (by kernel_rfl) (by kernel_rfl) ?_
              clear hF; intro w hF hE
              clear hE
              refine ⟨fun wq => FR w0 [] [(b3, .cells #[.int .i64 (5), .string (bs ([])), .slice (none) (0) (0), .slice (some ⟨b2, 0, none⟩) (1) (1)] 25), (b2, .cells #[.int .i64 (k), .string (bs (t)), .slice (A) (ks.length) (c), .slice (B) (xs.length) (e)] 25), (b1, .cells #[.int .i64 (k), .string (bs (t)), .slice (A) (ks.length) (c), .slice (B) (xs.length) (e)] 25)] wq, hF, ?_⟩
              refine f_free rfl (v := .agg #[.int .i64 (k), .string (bs (t)), .slice (A) (ks.length) (c), .slice (B) (xs.length) (e)]) (fun w hC => x_loadS (l := [.int .i64 (k), .string (bs (t)), .slice (A) (ks.length) (c), .slice (B) (xs.length) (e)]) Tryz.isAgg25 Tryz.sizeOf25 rfl rfl (hC.cellsAll 2 rfl)) ?_
              refine f_free rfl (v := .pointer (some ⟨b1, 2, none⟩)) (fun w hC => x_fieldAddrO fa_25_2 rfl) ?_
              refine f_free rfl (v := .slice (A) (ks.length) (c)) (fun w hC => x_load Tryz.isAgg22 rfl (hC.cell 2 rfl rfl)) ?_
              refine f_free rfl (v := .int .i64 ((j : Int))) (fun w hC => x_move rfl) ?_
              obtain ⟨ad5, hA5, hk5, hx5⟩ := hK.str_elem (i := j) (by omega)
              refine f_free rfl (v := .pointer (some (ad5.add (j * 1)))) (fun w hC => x_indexAddrA (i := (j : Int)) sl_22 rfl hA5 rfl (by omega) (by omega)) ?_
              refine f_free rfl (v := .string (bs (ks[j]))) (fun w hC => x_load Tryz.isAgg9 rfl (hC.cell0 hk5)) ?_
              refine d_alt ?_ ?_
              ·
                have hg : getV (.node k t ks xs) ks[j] = (xs[j], true) := by subst k6; exact getV_at ho_ (by omega) (by omega)
                refine f_call rfl (getV_c k t ks xs ks[j] (by omega) _ _ _ (hF.rep rx) kx (hG.ext hF.same)) (x_call2 en_28 rfl rfl rfl) ?_
                rintro _ w ⟨ct, rfl, hRt, hE⟩
                rw [hg] at hRt ⊢
                have hlt : ct.length = 4 := hRt.length.trans (size_treeD _)
                have hot := hRt.one_
                have hXX := RX.made (ids := [b3, b2, b1]) hF.same.size (fun x hx => hF.lt_ids (by grind)) hRt
                replace hF := hF.ext hE
                clear hE hRt
                refine ⟨hF, ?_⟩
                refine f_free rfl (v := .tuple #[.agg (List.toArray ct), .bool true]) (fun w hC => x_move rfl) ?_
                refine f_free rfl (v := .agg (List.toArray ct)) (fun w hC => x_extract rfl rfl) ?_
                refine f_free rfl (v := .bool true) (fun w hC => x_extract rfl rfl) ?_
                refine f_new rfl (v := fun b => .pointer (some ⟨b, 0, none⟩)) (o := .cells #[.int .i64 (0), .string (bs ([])), .slice (none) (0) (0), .slice (none) (0) (0)] 25) hF (x_alloc Tryz.zeroValue25) ?_
                clear hF; intro b10 w hb10 hF hE
                replace hXX := hXX.alloc hE hb10
                clear hE
                refine ⟨hF.sub (.cons _ (.cons_cons _ (.cons_cons _ (.cons_cons _ .slnil)))), ?_⟩
                refine f_store rfl 0 (l := ct) (cs' := (List.toArray ct)) hF (by rw [hlt]; exact Tryz.sizeOf25) rfl (v := .agg (List.toArray ct)) rfl rfl (hot) rfl (by rw [hlt]; exact Nat.le_of_ble_eq_true rfl) (putA_all (by rw [hlt]; rfl)) ?_
                clear hF; intro w hF hE
                replace hXX := hXX.store hE (by grind)
                clear hE
                replace hF : FR w0 [] [(b10, .cells (List.toArray ct) 25), (b3, .cells #[.int .i64 (5), .string (bs ([])), .slice (none) (0) (0), .slice (some ⟨b2, 0, none⟩) (1) (1)] 25), (b2, .cells #[.int .i64 (k), .string (bs (t)), .slice (A) (ks.length) (c), .slice (B) (xs.length) (e)] 25), (b1, .cells #[.int .i64 (k), .string (bs (t)), .slice (A) (ks.length) (c), .slice (B) (xs.length) (e)] 25)] w := hF
                refine ⟨hF.sub (.cons _ (.cons_cons _ (.cons_cons _ (.cons_cons _ .slnil)))), ?_⟩
                refine f_free rfl (v := .bool true) (fun w hC => x_assign rfl) ?_
                refine d_nil ?_
                exact e_inv ⟨(b10), (ct), (hlt), (hot), (hXX.rep.all), ⟨rfl, rfl, rfl, rfl, rfl, trivial⟩, ((((hF.front 3 rfl).front 3 rfl).front 3 rfl).front 3 rfl)⟩
              ·
                refine f_new rfl (v := fun b => .pointer (some ⟨b, 0, none⟩)) (o := .cells #[.int .i64 (0), .string (bs ([])), .slice (none) (0) (0), .slice (none) (0) (0)] 25) hF (x_alloc Tryz.zeroValue25) ?_
                clear hF; intro b11 w hb11 hF hE
                clear hE
                refine ⟨hF.sub (.cons _ (.cons_cons _ (.cons_cons _ (.cons_cons _ .slnil)))), ?_⟩
                have hg : getV (.node k t ks xs) ks[j] = (xs[j], true) := by subst k6; exact getV_at ho_ (by omega) (by omega)
                refine f_call rfl (getV_c k t ks xs ks[j] (by omega) _ _ _ (hF.rep rx) kx (hG.ext hF.same)) (x_call2 en_28 rfl rfl rfl) ?_
                rintro _ w ⟨ct, rfl, hRt, hE⟩
                rw [hg] at hRt ⊢
                have hlt : ct.length = 4 := hRt.length.trans (size_treeD _)
                have hot := hRt.one_
                have hXX := RX.made (ids := [b11, b3, b2, b1]) hF.same.size (fun x hx => hF.lt_ids (by grind)) hRt
                replace hF := hF.ext hE
                clear hE hRt
                refine ⟨hF.sub (.cons _ (.cons_cons _ (.cons_cons _ (.cons_cons _ .slnil)))), ?_⟩
                refine f_free rfl (v := .tuple #[.agg (List.toArray ct), .bool true]) (fun w hC => x_move rfl) ?_
                refine f_free rfl (v := .agg (List.toArray ct)) (fun w hC => x_extract rfl rfl) ?_
                refine f_free rfl (v := .bool true) (fun w hC => x_extract rfl rfl) ?_
                refine f_store rfl 0 (l := ct) (cs' := (List.toArray ct)) hF (by rw [hlt]; exact Tryz.sizeOf25) rfl (v := .agg (List.toArray ct)) rfl rfl (hot) rfl (by rw [hlt]; exact Nat.le_of_ble_eq_true rfl) (putA_all (by rw [hlt]; rfl)) ?_
                clear hF; intro w hF hE
                replace hXX := hXX.store hE (by grind)
                clear hE
                replace hF : FR w0 [] [(b11, .cells (List.toArray ct) 25), (b3, .cells #[.int .i64 (5), .string (bs ([])), .slice (none) (0) (0), .slice (some ⟨b2, 0, none⟩) (1) (1)] 25), (b2, .cells #[.int .i64 (k), .string (bs (t)), .slice (A) (ks.length) (c), .slice (B) (xs.length) (e)] 25), (b1, .cells #[.int .i64 (k), .string (bs (t)), .slice (A) (ks.length) (c), .slice (B) (xs.length) (e)] 25)] w := hF
                refine ⟨hF.sub (.cons _ (.cons_cons _ (.cons_cons _ (.cons_cons _ .slnil)))), ?_⟩
                refine f_free rfl (v := .bool true) (fun w hC => x_assign rfl) ?_
                refine d_nil ?_
                exact e_inv ⟨(b11), (ct), (hlt), (hot), (hXX.rep.all), ⟨rfl, rfl, rfl, rfl, rfl, trivial⟩, ((((hF.front 3 rfl).front 3 rfl).front 3 rfl).front 3 rfl)⟩
            clear hF; rintro σ w ⟨b9, ct, hlt, hot, hRt, hs, hF⟩
            refine Eg.slots hs ?_
            clear hs; intro σ
            refine e_seq ?_
            refine c_seq ?_
            refine c_drawF [] (.free 0 (.free 1 (.free 2 (.free 3 (.free 4 (.free 5 (.free 6 (.free 7 (.free 8 (.act 9 (.free 10 (.free 11 .nil)))))))))))) (by kernel_rfl) hF (by kernel_rfl) (by kernel_rfl) ?_
            clear hF; intro w hF hE
            replace hRt := hRt.ext hE
            clear hE
            refine ⟨fun wq => FR w0 [] [(b9, .cells (List.toArray ct) 25), (b3, .cells #[.int .i64 (5), .string (bs ([])), .slice (none) (0) (0), .slice (some ⟨b2, 0, none⟩) (1) (1)] 25), (b2, .cells #[.int .i64 (k), .string (bs (t)), .slice (A) (ks.length) (c), .slice (B) (xs.length) (e)] 25), (b1, .cells #[.int .i64 (k), .string (bs (t)), .slice (A) (ks.length) (c), .slice (B) (xs.length) (e)] 25)] wq, hF, ?_⟩
            refine f_free rfl (v := .bool true) (fun w hC => x_move rfl) ?_
            refine f_free rfl (v := .bool false) (fun w hC => x_not (b := true) rfl) ?_
            refine f_free rfl (v := .bool false) (fun w hC => x_move rfl) ?_
            refine f_free rfl (v := .agg (List.toArray ct)) (fun w hC => x_loadS (l := ct) Tryz.isAgg25 Tryz.sizeOf25 rfl hlt (hC.cellsAll 0 rfl)) ?_
            refine f_free rfl (v := .pointer (some ⟨b1, 3, none⟩)) (fun w hC => x_fieldAddrO fa_25_3 rfl) ?_
            refine f_free rfl (v := .slice (B) (xs.length) (e)) (fun w hC => x_load Tryz.isAgg23 rfl (hC.cell 3 rfl rfl)) ?_
            refine f_free rfl (v := .int .i64 ((j : Int))) (fun w hC => x_move rfl) ?_
            obtain ⟨ad6, cs6, hA6, hl6, hk6, hx6⟩ := hX.tree_elem (i := j) (by omega)
            have ho6 := hx6.one_
            refine f_free rfl (v := .pointer (some (ad6.add (j * 4)))) (fun w hC => x_indexAddrA (i := (j : Int)) sl_23 rfl hA6 rfl (by omega) (by omega)) ?_
            refine f_free rfl (v := .agg (List.toArray cs6)) (fun w hC => x_loadS (l := cs6) Tryz.isAgg25 Tryz.sizeOf25 rfl hl6 (hC.cells0 hk6)) ?_
            refine f_call rfl (ret_eq (v' := .bool true) (equal_c xs[j] xs[j] _ _ _ ct cs6 hRt (hF.rep hx6)) (congrArg Value.bool (eqT_self _))) (x_call2 en_22 rfl rfl rfl) ?_
            rintro _ w ⟨rfl, hE⟩
            replace hF := hF.ext hE
            replace hRt := hRt.ext hE
            clear hE
            refine ⟨hF, ?_⟩
            refine f_free rfl (v := .bool false) (fun w hC => x_not (b := true) rfl) ?_
            refine f_free rfl (v := .bool false) (fun w hC => x_pickf rfl rfl) ?_
            refine d_nil ?_
            refine e_seq ?_
            refine c_iff rfl ?_
            refine c_skip ?_
            refine e_block ?_
            refine e_seq ?_
            refine c_region ?_
            refine o_val (v := .int .i64 ((j : Int))) (x_move rfl) ?_
            refine o_val (v := .int .i64 (((j : Int) : Int) + 1)) (x_add rfl rfl (wrap_id (by omega) (by omega))) ?_
            refine o_val (v := .int .i64 (((j : Int) : Int) + 1)) (x_assign rfl) ?_
            refine o_nil ?_
            refine e_inv ⟨_, ?_, j + 1, rfl, (by omega), ⟨rfl, rfl, rfl, trivial⟩, hF.drop 1⟩
            omega
          ·
            refine c_iff rfl ?_
            refine c_exit (e_exit rfl ?_)
            refine e_seq ?_
            refine c_seq ?_
            refine c_region ?_
            refine o_val (v := .bool true) (x_move rfl) ?_
            refine o_val (v := .bool true) (x_assign rfl) ?_
            refine o_nil ?_
            refine e_seq ?_
            refine c_ret (e_ret (post_ret (res_1 (v := .bool true) rfl rfl) ?_))
            exact ⟨rfl, hF.same⟩
theorem valueHolds_w (w0 : World) (hG : Gl w0) (x : Tree) (cx : List Value) (rx : Rep (fun _ => True) w0 (treeD x) cx) : Calls Tryz.prog 9 #[.agg cx.toArray] w0 (Ret fun v w' => v = .bool true ∧ Same [] w0 w') := by
  obtain ⟨k, t, ks, xs⟩ := x
  exact valueHolds_w0 w0 hG k t ks xs cx rx
end Go.Scarf
