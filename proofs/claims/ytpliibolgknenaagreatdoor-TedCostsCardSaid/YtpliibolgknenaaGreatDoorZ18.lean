/- A part of the proof. -/
import Derived.Test.YtpliibolgknenaaGreatDoorZ17
set_option linter.all false
namespace Go.Scarf
open Go.RowKit Go.Proofs
def rowT (la : List Str) (fa : List Int) (lb : List Str) (fb : List Int) (x j : Nat) : List Int := (List.range j).map fun y => ((td (nodesT la fa) (nodesT lb fb) x y : Nat) : Int)
theorem rowT_len (la : List Str) (fa : List Int) (lb : List Str) (fb : List Int) (x j : Nat) : (rowT la fa lb fb x j).length = j := by simp [rowT]
theorem rowT_succ (la : List Str) (fa : List Int) (lb : List Str) (fb : List Int) (x j : Nat) : rowT la fa lb fb x (j + 1) = rowT la fa lb fb x j ++ [((td (nodesT la fa) (nodesT lb fb) x j : Nat) : Int)] := by simp [rowT, List.range_succ]
def rowsT (la : List Str) (fa : List Int) (lb : List Str) (fb : List Int) (i : Nat) : List D := (List.range i).map fun x => D.slice ((rowT la fa lb fb x lb.length).map intD)
theorem rowsT_succ (la : List Str) (fa : List Int) (lb : List Str) (fb : List Int) (i : Nat) : rowsT la fa lb fb (i + 1) = rowsT la fa lb fb i ++ [D.slice ((rowT la fa lb fb i lb.length).map intD)] := by simp [rowsT, List.range_succ]
theorem rowsT_len (la : List Str) (fa : List Int) (lb : List Str) (fb : List Int) (i : Nat) : (rowsT la fa lb fb i).length = i := by simp [rowsT]
theorem FR.dropLast {w0 w : World} {Ds : List Nat} {z : Nat × Obj} {bs so sn : List (Nat × Obj)} (hF : FR w0 Ds ((z :: bs) ++ (so ++ (sn ++ []))) w) : FR w0 Ds (bs ++ (so ++ [])) w :=
  hF.sub (List.Sublist.trans (List.Sublist.append (List.sublist_cons_self z bs) (List.Sublist.append (List.Sublist.refl so) (List.nil_sublist _))) (List.Sublist.refl _))
theorem seg_data {w0 w : World} {ids : List Nat} {pre post sn : List (Nat × Obj)} {e n c : Nat} {A : Option Addr} {xs : List Value} {ds : List D} (hF : FR w0 [] (pre ++ (sn ++ post)) w) (hS : SlB e 1 A n c xs sn) (hi : ∀ q ∈ sn, q.1 ∉ ids) (hr : RepL (New w0 ids w) w ds xs) (hn : ds.length = n) : RX w0 ids w [.slice ds] [.slice A n c] := by
  refine .one (hS.repOf (fun q hq => ?_) hr hn)
  have h1 := hF.own q (by simp [hq])
  obtain ⟨cur, he⟩ := hS.typ.2 q hq
  refine ⟨h1.1, ?_, lt_of_some h1.1, hi q hq, cur, e, by rw [h1.1, he]⟩
  rcases h1.2 with h | h
  · exact h
  · cases h
theorem seg_apart {w0 w : World} {Ds : List Nat} {bs so sn : List (Nat × Obj)} (hF : FR w0 Ds (bs ++ (so ++ (sn ++ []))) w) {q r : Nat × Obj} (hq : q ∈ sn) (hr : r ∈ bs ++ so) : q.1 ≠ r.1 := by
  have h := hF.desc
  rw [← List.append_assoc] at h
  exact (List.pairwise_append.1 h).2.2 r hr q (by simp [hq])
theorem rowT_in {la lb : List Str} {fa fb : List Int} {i j : Nat} (hi : i ≤ 80) (hj : j ≤ 80) : ∀ s ∈ rowT la fa lb fb i j, -9223372036854775808 ≤ s ∧ s ≤ 9223372036854775807 := by
  intro s hs
  obtain ⟨y, hy, rfl⟩ := List.mem_map.1 hs
  have hy := List.mem_range.1 hy
  have h : td (nodesT la fa) (nodesT lb fb) i y ≤ i + 1 + (y + 1) := by
    unfold td
    have := (fd_bounds (nodesT la fa) (nodesT lb fb) _ ((nodesT la fa).lf i) (i + 1) ((nodesT lb fb).lf y) (y + 1) (Nat.le_refl _)).1
    omega
  constructor <;> omega
theorem Tk.kept {w w' : World} {N0 tb hb cb : Nat} {la lb : List Str} {fa fb : List Int} {Aa Ba Ab Bb : Option Addr} {k1 k2 k3 k4 N : Nat} {h : Nat → Bool} {f : Nat → Int} {E : List Nat} (H : Tk w N0 tb hb cb la fa lb fb Aa Ba Ab Bb k1 k2 k3 k4 N h f) (hs : Same E w w') (he : ∀ b ∈ E, N0 ≤ b) : Tk w' N0 tb hb cb la fa lb fb Aa Ba Ab Bb k1 k2 k3 k4 N h f := by
  have ns : ∀ b ∈ E, ¬ Sb N0 hb cb b := fun b hb_ h2 => by have := he b hb_; have := h2.1; omega
  have nl : ∀ x, x < N0 → x ∉ E := fun x hx hm => by have := he x hm; omega
  exact ⟨(hs.block _ (lt_of_some H.cell) (nl _ H.lt.1)).trans H.cell, H.La.same hs ns, H.Na.same hs ns, H.Lb.same hs ns, H.Nb.same hs ns, (hs.block _ (lt_of_some H.had) (nl _ H.lt.2.1)).trans H.had, (hs.block _ (lt_of_some H.cost) (nl _ H.lt.2.2)).trans H.cost, H.ne, H.lt⟩
set_option maxHeartbeats 8000000 in
set_option maxRecDepth 10000 in
theorem rcosts_yes (S S' : Nat → Prop) (w0 : World) (la : List Str) (fa : List Int) (Aa Ba : Option Addr) (ca ea : Nat) (hLa : Rep S w0 (strsD la) [.slice Aa la.length ca]) (hNa : Rep S w0 (.slice (fa.map intD)) [.slice Ba fa.length ea]) (lb : List Str) (fb : List Int) (Ab Bb : Option Addr) (cb eb : Nat) (hLb : Rep S' w0 (strsD lb) [.slice Ab lb.length cb]) (hNb : Rep S' w0 (.slice (fb.map intD)) [.slice Bb fb.length eb]) (hRa : RightT la fa) (hRb : RightT lb fb) (ha8 : la.length ≤ 80) (hb8 : lb.length ≤ 80) : Calls Tryz.prog 20 #[.agg #[.slice Aa la.length ca, .slice Ba fa.length ea], .agg #[.slice Ab lb.length cb, .slice Bb fb.length eb]] w0 (Ret fun v w' => ∃ (A : Option Addr) (c : Nat), v = .tuple #[.slice A la.length c, .int .i64 0] ∧ Rep (Btw w0 w') w' (.slice (rowsT la fa lb fb la.length)) [.slice A la.length c] ∧ Same [] w0 w') := by
 have hLla := hLa.slice_len
 have hNla := hNa.slice_len
 rw [List.length_map] at hLla hNla
 have hLlb := hLb.slice_len
 have hNlb := hNb.slice_len
 rw [List.length_map] at hLlb hNlb
 have hR1 := hRa.1
 have hR2 := hRa.2.1
 have hR3 := hRb.1
 have hR4 := hRb.2.1
 refine calls_start Tryz.func20 rfl Tryz.ntmps20 (Nat.le_of_ble_eq_true rfl) (args_2 _ _) ?_
 have hF := FR.start w0 []
 refine c_seq (c_region ?_)
 refine o_box (v := .agg #[.slice (Aa) (la.length) (ca), .slice (Ba) (fa.length) (ea)]) (cs := #[.slice (Aa) (la.length) (ca), .slice (Ba) (fa.length) (ea)]) hF rfl rfl ?_
 clear hF; rintro b1 w hb1 hF -
 refine o_box (v := .agg #[.slice (Ab) (lb.length) (cb), .slice (Bb) (fb.length) (eb)]) (cs := #[.slice (Ab) (lb.length) (cb), .slice (Bb) (fb.length) (eb)]) hF rfl rfl ?_
 clear hF; rintro b2 w hb2 hF -
 refine o_val (x_assign rfl) (o_val (x_assign rfl) (o_nil (e_seq (c_seq (c_region (o_val (v := .agg #[.slice (Aa) (la.length) (ca), .slice (Ba) (fa.length) (ea)]) (x_loadS (l := [.slice (Aa) (la.length) (ca), .slice (Ba) (fa.length) (ea)]) Tryz.isAgg30 Tryz.sizeOf30 rfl rfl (hF.cellsAll 1 rfl)) ?_))))))
 refine o_call (rright15_c _ _ la fa Aa Ba ca ea (hF.rep hLa) (hF.rep hNa)) (x_call1 en_34 rfl rfl) ?_
 rintro _ w ⟨b, rfl, hb, hE⟩
 obtain rfl : b = true := hb.2 hRa
 replace hF := hF.ext hE
 clear hE
 refine o_val (x_assign rfl) (o_nil (e_seq (c_seq (c_region (o_val (v := .agg #[.slice (Ab) (lb.length) (cb), .slice (Bb) (fb.length) (eb)]) (x_loadS (l := [.slice (Ab) (lb.length) (cb), .slice (Bb) (fb.length) (eb)]) Tryz.isAgg30 Tryz.sizeOf30 rfl rfl (hF.cellsAll 0 rfl)) ?_)))))
 refine o_call (rright15_c _ _ lb fb Ab Bb cb eb (hF.rep hLb) (hF.rep hNb)) (x_call1 en_34 rfl rfl) ?_
 rintro _ w ⟨b, rfl, hb, hE⟩
 obtain rfl : b = true := hb.2 hRb
 replace hF := hF.ext hE
 clear hE
 refine o_val (x_assign rfl) (o_nil (e_seq (c_seq (c_seq (c_region (o_val (x_move rfl) (o_val (v := .bool false) (x_not (b := true) rfl) (o_val (x_move rfl) (o_val (x_move rfl) (o_val (v := .bool false) (x_not (b := true) rfl) (o_val (x_pickf rfl rfl) (o_nil (e_seq ?_)))))))))))))
 refine c_iff rfl (c_skip (e_seq (c_seq (c_region (o_val (v := .agg #[.slice (Aa) (la.length) (ca), .slice (Ba) (fa.length) (ea)]) (x_loadS (l := [.slice (Aa) (la.length) (ca), .slice (Ba) (fa.length) (ea)]) Tryz.isAgg30 Tryz.sizeOf30 rfl rfl (hF.cellsAll 1 rfl)) (o_val (v := .agg #[.slice (Ab) (lb.length) (cb), .slice (Bb) (fb.length) (eb)]) (x_loadS (l := [.slice (Ab) (lb.length) (cb), .slice (Bb) (fb.length) (eb)]) Tryz.isAgg30 Tryz.sizeOf30 rfl rfl (hF.cellsAll 0 rfl)) ?_))))))
 have lb1 := hF.lt (i := 1) rfl
 have lb2 := hF.lt (i := 0) rfl
 refine o_call (made_c _ _ _ la fa Aa Ba ca ea (hF.rep hLa) (hF.rep hNa) lb fb Ab Bb cb eb (hF.rep hLb) (hF.rep hNb) ha8 hb8) (x_call2 en_35 rfl rfl rfl) ?_
 rintro _ w ⟨tb, hb, gb, rfl, hT, hgh, hgc, hE⟩
 have hs0 := hF.same.size
 replace hF := hF.ext hE
 obtain ⟨N0, hN0⟩ : ∃ N, N = w.heap.size := ⟨_, rfl⟩
 rw [← hN0] at hT
 have hNw : N0 ≤ w.heap.size := Nat.le_of_eq hN0
 have hH : HadOk (nodesT la fa) (nodesT lb fb) la.length lb.length (fun _ => false) (fun _ => 0) := fun i k j l _ _ _ _ h => by cases h
 have hba : hb ≠ b1 ∧ hb ≠ b2 ∧ gb ≠ b1 ∧ gb ≠ b2 := ⟨by omega, by omega, by omega, by omega⟩
 clear hE
 refine o_val (x_assign rfl) (o_nil (e_seq (c_seq (c_region (o_val (x_assign rfl) (o_nil (e_seq (c_seq (c_seq (c_region (o_val (x_assign rfl) (o_nil (e_seq ?_)))))))))))))
 refine c_block ?_
 refine c_loop (fun μ σ w => ∃ (i : Nat), ∃ (A : Option Addr), ∃ (c : Nat), ∃ (so : List (Nat × Obj)), ∃ (vals : List Value), ∃ (h : Nat → Bool), ∃ (f : Nat → Int), μ = la.length - i ∧ (i ≤ la.length) ∧ (SlB 28 1 A i c vals so) ∧ (RX w0 ([hb, gb, b2, b1] ++ so.map (·.1)) w (rowsT la fa lb fb i) vals) ∧ (Tk w N0 tb hb gb la fa lb fb Aa Ba Ab Bb ca ea cb eb ((la.length + 1) * (la.length + 1) * (lb.length + 1) * (lb.length + 1)) h f) ∧ (HadOk (nodesT la fa) (nodesT lb fb) la.length lb.length h f) ∧ (N0 ≤ w.heap.size) ∧ (∀ q ∈ so, N0 ≤ q.1) ∧ AllEq σ [(2, .pointer (some ⟨b1, 0, none⟩)), (3, .pointer (some ⟨b2, 0, none⟩)), (8, .pointer (some ⟨tb, 0, none⟩)), (9, .slice (A) (i) (c)), (10, .int .i64 ((i : Int)))] ∧ FR w0 [] ([(b2, .cells #[.slice (Ab) (lb.length) (cb), .slice (Bb) (fb.length) (eb)] 30), (b1, .cells #[.slice (Aa) (la.length) (ca), .slice (Ba) (fa.length) (ea)] 30)] ++ (so ++ [])) w) _ ⟨0, none, 0, [], [], _, _, rfl, (Nat.zero_le _), (SlB.nil _ _), (RX.nil), (hT), (hH), (hNw), (by simp), ⟨rfl, rfl, rfl, rfl, rfl, trivial⟩, hF⟩ ?_
 clear hF; rintro μ σ w ⟨i, A, c, so, vals, h, f, rfl, hi, hSo, hK, hT, hH, hNw, hso, hs, hF⟩
 refine Cg.slots hs ?_
 clear hs; intro σ
 refine c_seq (c_seq (c_region (o_val (x_move rfl) (o_val (v := .pointer (some ⟨b1, 0, none⟩)) (x_fieldAddrO fa_30_0 rfl) (o_val (v := .slice (Aa) (la.length) (ca)) (x_load Tryz.isAgg22 rfl (hF.cell 1 rfl rfl)) (o_val (v := .int .i64 ((la.length : Nat))) (x_len_slice Tryz.underlying22 rfl) (o_val (v := .bool (decide (((i : Int) : Int) < ((la.length : Nat) : Int)))) (x_lss rfl rfl) (o_nil (e_seq ?_)))))))))
 refine c_splitd (d := 30) (p := ((i : Int) : Int) < ((la.length : Nat) : Int)) rfl (fun hc1 => ?_) (fun hc1 => ?_)
 refine c_ift rfl (c_skip (e_seq (c_seq (c_block (c_seq (c_region (o_val (x_assign rfl) (o_nil (e_seq (c_seq (c_seq (c_region (o_val (x_assign rfl) ?_)))))))))))))
 refine o_nil (e_seq (c_block ?_))
 refine c_loop (fun μ σ w => ∃ (j : Nat), ∃ (A2 : Option Addr), ∃ (c2 : Nat), ∃ (sn : List (Nat × Obj)), ∃ (h : Nat → Bool), ∃ (f : Nat → Int), μ = lb.length - j ∧ (j ≤ lb.length) ∧ (SlB 3 1 A2 j c2 (IVs (rowT la fa lb fb i j)) sn) ∧ (RX w0 ([hb, gb, b2, b1] ++ (so.map (·.1) ++ sn.map (·.1))) w (rowsT la fa lb fb i) vals) ∧ (Tk w N0 tb hb gb la fa lb fb Aa Ba Ab Bb ca ea cb eb ((la.length + 1) * (la.length + 1) * (lb.length + 1) * (lb.length + 1)) h f) ∧ (HadOk (nodesT la fa) (nodesT lb fb) la.length lb.length h f) ∧ (N0 ≤ w.heap.size) ∧ (∀ q ∈ sn, N0 ≤ q.1) ∧ AllEq σ [(2, .pointer (some ⟨b1, 0, none⟩)), (3, .pointer (some ⟨b2, 0, none⟩)), (8, .pointer (some ⟨tb, 0, none⟩)), (9, .slice (A) (i) (c)), (10, .int .i64 ((i : Int))), (11, .slice (A2) (j) (c2)), (12, .int .i64 ((j : Int)))] ∧ FR w0 [] ([(b2, .cells #[.slice (Ab) (lb.length) (cb), .slice (Bb) (fb.length) (eb)] 30), (b1, .cells #[.slice (Aa) (la.length) (ca), .slice (Ba) (fa.length) (ea)] 30)] ++ (so ++ (sn ++ []))) w) _ ⟨0, none, 0, [], _, _, rfl, (Nat.zero_le _), (SlB.nil _ _), (by simpa using hK), (hT), (hH), (hNw), (by simp), ⟨rfl, rfl, rfl, rfl, rfl, rfl, rfl, trivial⟩, hF⟩ ?_
 clear hF; rintro μ σ w ⟨j, A2, c2, sn, h, f, rfl, hj, hSn, hK, hT, hH, hNw, hsn, hs, hF⟩
 refine Cg.slots hs ?_
 clear hs; intro σ
 refine c_seq (c_seq (c_region (o_val (x_move rfl) (o_val (v := .pointer (some ⟨b2, 0, none⟩)) (x_fieldAddrO fa_30_0 rfl) (o_val (v := .slice (Ab) (lb.length) (cb)) (x_load Tryz.isAgg22 rfl (hF.cell 0 rfl rfl)) (o_val (v := .int .i64 ((lb.length : Nat))) (x_len_slice Tryz.underlying22 rfl) (o_val (v := .bool (decide (((j : Int) : Int) < ((lb.length : Nat) : Int)))) (x_lss rfl rfl) (o_nil (e_seq ?_)))))))))
 refine c_splitd (d := 37) (p := ((j : Int) : Int) < ((lb.length : Nat) : Int)) rfl (fun hc2 => ?_) (fun hc2 => ?_)
 refine c_ift rfl (c_skip (e_seq (c_seq (c_block ?_))))
 obtain ⟨u, hu⟩ : ∃ z, z = lfN fa i := ⟨_, rfl⟩
 obtain ⟨v, hv⟩ : ∃ z, z = lfN fb j := ⟨_, rfl⟩
 have hfu : (u : Int) = fa[i] := by rw [hu]; exact hRa.2.2.at (by omega) (by omega)
 have hfv : (v : Int) = fb[j] := by rw [hv]; exact hRb.2.2.at (by omega) (by omega)
 have hui : u ≤ i := by rw [hu]; exact Nat.min_le_right _ _
 have hvj : v ≤ j := by rw [hv]; exact Nat.min_le_right _ _
 have htd : Value.int .i64 ((fd (nodesT la fa) (nodesT lb fb) u (i + 1) v (j + 1) : Nat) : Int) = .int .i64 ((td (nodesT la fa) (nodesT lb fb) i j : Nat) : Int) := by rw [td, show (nodesT la fa).lf i = u from hu.symm, show (nodesT lb fb).lf j = v from hv.symm]
 have hap1 : ∀ z ∈ [(b2, Obj.cells #[.slice Ab lb.length cb, .slice Bb fb.length eb] 30), (b1, .cells #[.slice Aa la.length ca, .slice Ba fa.length ea] 30)] ++ (so ++ (sn ++ [])), z.1 ≠ hb := fun z hz e => by simp only [List.append_nil, List.mem_append, List.mem_cons, List.not_mem_nil, or_false] at hz; rcases hz with (rfl | rfl) | hz | hz; (exact hba.2.1 e.symm); (exact hba.1 e.symm); (have := hso z hz; have := hT.lt.2.1; omega); (have := hsn z hz; have := hT.lt.2.1; omega)
 have hap2 : ∀ z ∈ [(b2, Obj.cells #[.slice Ab lb.length cb, .slice Bb fb.length eb] 30), (b1, .cells #[.slice Aa la.length ca, .slice Ba fa.length ea] 30)] ++ (so ++ (sn ++ [])), z.1 ≠ gb := fun z hz e => by simp only [List.append_nil, List.mem_append, List.mem_cons, List.not_mem_nil, or_false] at hz; rcases hz with (rfl | rfl) | hz | hz; (exact hba.2.2.2 e.symm); (exact hba.2.2.1 e.symm); (have := hso z hz; have := hT.lt.2.2; omega); (have := hsn z hz; have := hT.lt.2.2; omega)
 refine c_drawF [] (.free 0 (.free 1 (.free 2 (.free 3 (.free 4 (.free 5 (.free 6 (.free 7 (.free 8 (.free 9 (.free 10 (.free 11 (.free 12 (.free 13 (.free 14 (.free 15 (.act 16 (.act 17 (.act 18 (.free 19 .nil)))))))))))))))))))) (by kernel_rfl) hF (by kernel_rfl) (by kernel_rfl) ?_
 clear hF; intro w hF hE
 replace hT := hT.ext hE
 replace hNw := Nat.le_trans hNw hE.size
 replace hK := hK.ext hE
 clear hE
 refine ⟨fun wq => FR w0 [] [(b2, .cells #[.slice (Ab) (lb.length) (cb), .slice (Bb) (fb.length) (eb)] 30), (b1, .cells #[.slice (Aa) (la.length) (ca), .slice (Ba) (fa.length) (ea)] 30)] wq, hF.sub (.cons_cons _ (.cons_cons _ (List.nil_sublist _))), ?_⟩
 refine f_free rfl (v := .slice (A2) (j) (c2)) (fun w hC => x_move rfl) (f_free rfl (v := .pointer (some ⟨tb, 0, none⟩)) (fun w hC => x_move rfl) (f_free rfl (v := .pointer (some ⟨b1, 1, none⟩)) (fun w hC => x_fieldAddrO fa_30_1 rfl) (f_free rfl (v := .slice (Ba) (fa.length) (ea)) (fun w hC => x_load Tryz.isAgg28 rfl (hC.cell 1 rfl rfl)) (f_free rfl (v := .int .i64 ((i : Int))) (fun w hC => x_move rfl) ?_))))
 obtain ⟨ad0, hA0, hk0, hx0⟩ := hNa.int_elem (i := i) (by omega)
 rw [← hfu] at hk0
 refine f_free rfl (v := .pointer (some (ad0.add (i * 1)))) (fun w hC => x_indexAddrA (i := (i : Int)) sl_28 rfl hA0 rfl (by omega) (by omega)) (f_free rfl (v := .int .i64 ((u : Nat))) (fun w hC => x_load Tryz.isAgg3 rfl (hC.cell0 hk0)) (f_free rfl (v := .int .i64 ((i : Int))) (fun w hC => x_move rfl) (f_free rfl (v := .int .i64 (((i + 1 : Nat) : Int))) (fun w hC => x_add rfl rfl (wrap_to (by omega) (by omega) (by omega))) (f_free rfl (v := .pointer (some ⟨b2, 1, none⟩)) (fun w hC => x_fieldAddrO fa_30_1 rfl) (f_free rfl (v := .slice (Bb) (fb.length) (eb)) (fun w hC => x_load Tryz.isAgg28 rfl (hC.cell 0 rfl rfl)) (f_free rfl (v := .int .i64 ((j : Int))) (fun w hC => x_move rfl) ?_))))))
 obtain ⟨ad1, hA1, hk1, hx1⟩ := hNb.int_elem (i := j) (by omega)
 rw [← hfv] at hk1
 refine f_free rfl (v := .pointer (some (ad1.add (j * 1)))) (fun w hC => x_indexAddrA (i := (j : Int)) sl_28 rfl hA1 rfl (by omega) (by omega)) (f_free rfl (v := .int .i64 ((v : Nat))) (fun w hC => x_load Tryz.isAgg3 rfl (hC.cell0 hk1)) (f_free rfl (v := .int .i64 ((j : Int))) (fun w hC => x_move rfl) (f_free rfl (v := .int .i64 (((j + 1 : Nat) : Int))) (fun w hC => x_add rfl rfl (wrap_to (by omega) (by omega) (by omega))) ?_)))
 refine f_call rfl (between16_c N0 tb hb gb la fa lb fb Aa Ba Ab Bb ca ea cb eb ((la.length + 1) * (la.length + 1) * (lb.length + 1) * (lb.length + 1)) rfl (gx_max ha8 hb8) hRa.1 hRb.1 hRa.2.2 hRb.2.2 hRa.2.1 hRb.2.1 _ u (i + 1) v (j + 1) (Nat.le_refl _) (by omega) (by omega) (by omega) (by omega) _ _ _ hNw hT hH) (x_call5 en_36 rfl rfl rfl rfl rfl rfl) ?_
 rintro _ w ⟨h_, f_, he_, hT_, hH_, hE⟩
 rw [htd] at he_
 subst he_
 replace hF := hF.touch hE (fun b hb_ => by simp only [List.mem_cons, List.not_mem_nil, or_false] at hb_; rcases hb_ with rfl | rfl; (exact ⟨fun h => absurd h (by omega), fun z hz e => hap1 z hz e⟩); (exact ⟨fun h => absurd h (by omega), fun z hz e => hap2 z hz e⟩))
 replace hK := hK.store hE (by simp)
 clear hT hH
 have hT := hT_
 have hH := hH_
 clear hT_ hH_
 replace hNw := Nat.le_trans hNw hE.size
 clear hE
 refine ⟨hF.sub (.cons_cons _ (.cons_cons _ (List.nil_sublist _))), ?_⟩
 refine f_new rfl (v := fun b => .slice (some ⟨b, 0, none⟩) 1 1) hF (x_buildSlice (cs := #[.int .i64 ((td (nodesT la fa) (nodesT lb fb) i j : Nat))]) Tryz.underlying28 Tryz.sizeOf3 Tryz.zeroValue3 (by decide) (by decide) (by kernel_rfl)) ?_
 clear hF; intro b3 w hb3 hF hE
 replace hT := hT.ext hE
 replace hNw := Nat.le_trans hNw hE.size
 replace hK := hK.ext hE
 clear hE
 refine ⟨hF.sub (.cons _ (.cons_cons _ (.cons_cons _ (List.nil_sublist _)))), ?_⟩
 refine f_append ([(b3, .cells #[.int .i64 ((td (nodesT la fa) (nodesT lb fb) i j : Nat))] 3), (b2, .cells #[.slice (Ab) (lb.length) (cb), .slice (Bb) (fb.length) (eb)] 30), (b1, .cells #[.slice (Aa) (la.length) (ca), .slice (Ba) (fa.length) (ea)] 30)] ++ so) [] (news := [.int .i64 ((td (nodesT la fa) (nodesT lb fb) i j : Nat))]) (len' := j + 1) (ys := IVs (rowT la fa lb fb i (j + 1))) rfl el_28 hF hSn rfl rfl (rfl) (fun _ => ⟨_, rfl, cells_opt (hF.cellsAll 0 rfl)⟩) (by simp [Value.oneCell']) (by simp only [maxLen]; omega) (rfl) (by rw [rowT_succ, IVs, IVs, List.map_append]; rfl) (by omega) ?_
 clear hF; intro A2 c2 n_2 w hS2_n hF hE hnew
 replace hT := hT.kept hE (fun b hb_ => by obtain ⟨r, hr, rfl⟩ := List.mem_map.1 hb_; exact hsn r hr)
 replace hK := hK.step hE (fun b hb_ => by simp only [List.mem_append]; exact .inr (.inr hb_)) (ids' := [hb, gb, b2, b1] ++ (so.map (·.1) ++ n_2.map (·.1))) (fun x hx => by simp only [List.mem_append] at hx ⊢; rcases hx with hx | hx | hx; (exact .inl (.inl hx)); (exact .inl (.inr (.inl hx))); (obtain ⟨q, hq, rfl⟩ := List.mem_map.1 hx; exact (hnew q hq).imp (fun h => .inr (.inr h)) id))
 replace hsn := fun q hq => (hnew q hq).elim (fun h => by obtain ⟨r, hr, e⟩ := List.mem_map.1 h; rw [← e]; exact hsn r hr) (fun h => Nat.le_trans hNw h)
 replace hNw := Nat.le_trans hNw hE.size
 clear hE hnew
 refine ⟨hF.sub (.cons _ (.cons_cons _ (.cons_cons _ (List.nil_sublist _)))), ?_⟩
 refine f_free rfl (v := .slice (A2) (j + 1) (c2)) (fun w hC => x_assign rfl) (d_nil (e_block (e_seq (c_region (o_val (x_move rfl) (o_val (v := .int .i64 (((j + 1 : Nat) : Int))) (x_add rfl rfl (wrap_to (by omega) (by omega) (by omega))) (o_val (x_assign rfl) (o_nil ?_))))))))
 refine e_inv ⟨_, ?_, j + 1, A2, c2, n_2, _, _, rfl, (by omega), (hS2_n), (hK), (hT), (hH), (hNw), (hsn), ⟨rfl, rfl, rfl, rfl, rfl, rfl, rfl, trivial⟩, hF.drop 1⟩
 omega
 refine c_iff rfl ?_
 refine c_exit (e_exit rfl ?_)
 refine e_seq ?_
 have ej : j = lb.length := by omega
 have hK1 := hK.sub (ids' := [hb, gb, b2, b1] ++ so.map (·.1)) (fun x hx => by simp only [List.mem_append] at hx ⊢; rcases hx with hx | hx; (exact .inl hx); (exact .inr (.inl hx)))
 have hrow := seg_data (ids := [hb, gb, b2, b1] ++ so.map (·.1)) (pre := [(b2, Obj.cells #[.slice Ab lb.length cb, .slice Bb fb.length eb] 30), (b1, .cells #[.slice Aa la.length ca, .slice Ba fa.length ea] 30)] ++ so) (post := []) (ds := (rowT la fa lb fb i j).map intD) hF hSn (fun q hq h => by simp only [List.mem_append, List.mem_cons, List.not_mem_nil, or_false] at h; rcases h with (h | h | h | h) | h; (have := hsn q hq; have := hT.lt.2.1; omega); (have := hsn q hq; have := hT.lt.2.2; omega); (exact seg_apart hF hq (r := (b2, _)) (by simp; exact .inl rfl) h); (exact seg_apart hF hq (r := (b1, _)) (by simp; exact .inr (.inl rfl)) h); (obtain ⟨r, hr, e⟩ := List.mem_map.1 h; exact seg_apart hF hq (List.mem_append.2 (.inr hr)) e.symm)) (ints_lits (rowT_in (by omega) (by omega))) (by rw [List.length_map, rowT_len])
 clear hK
 have hK := hK1.append hrow
 clear hK1 hrow
 refine c_region (o_val (x_move rfl) (o_val (x_move rfl) ?_))
 refine o_new (v := fun b => .slice (some ⟨b, 0, none⟩) 1 1) hF (x_buildSlice (cs := #[.slice (A2) (j) (c2)]) Tryz.underlying44 Tryz.sizeOf28 Tryz.zeroValue28 (by decide) (by decide) (by kernel_rfl)) ?_
 clear hF; intro b4 w hb4 hF hE
 replace hT := hT.ext hE
 replace hNw := Nat.le_trans hNw hE.size
 replace hK := hK.ext hE
 clear hE
 refine o_append [(b4, .cells #[.slice (A2) (j) (c2)] 28), (b2, .cells #[.slice (Ab) (lb.length) (cb), .slice (Bb) (fb.length) (eb)] 30), (b1, .cells #[.slice (Aa) (la.length) (ca), .slice (Ba) (fa.length) (ea)] 30)] (sn ++ []) (news := [.slice (A2) (j) (c2)]) (len' := i + 1) (ys := vals ++ [.slice (A2) (j) (c2)]) el_44 hF hSo rfl rfl (rfl) (fun _ => ⟨_, rfl, cells_opt (hF.cellsAll 0 rfl)⟩) (by simp [Value.oneCell']) (by simp only [maxLen]; omega) (rfl) (rfl) (by omega) ?_
 clear hF; intro A3 c3 o_3 w hS3_o hF hE hnew
 replace hT := hT.kept hE (fun b hb_ => by obtain ⟨r, hr, rfl⟩ := List.mem_map.1 hb_; exact hso r hr)
 replace hK := hK.step hE (fun b hb_ => by simp only [List.mem_append]; exact .inr hb_) (ids' := [hb, gb, b2, b1] ++ o_3.map (·.1)) (fun x hx => by simp only [List.mem_append] at hx ⊢; rcases hx with hx | hx; (exact .inl (.inl hx)); (obtain ⟨q, hq, rfl⟩ := List.mem_map.1 hx; exact (hnew q hq).imp .inr id))
 replace hso := fun q hq => (hnew q hq).elim (fun h => by obtain ⟨r, hr, e⟩ := List.mem_map.1 h; rw [← e]; exact hso r hr) (fun h => Nat.le_trans hNw h)
 replace hNw := Nat.le_trans hNw hE.size
 clear hE hnew
 refine o_val (x_assign rfl) (o_nil (e_block (e_seq (c_region (o_val (x_move rfl) (o_val (v := .int .i64 (((i + 1 : Nat) : Int))) (x_add rfl rfl (wrap_to (by omega) (by omega) (by omega))) (o_val (x_assign rfl) (o_nil ?_))))))))
 refine e_inv ⟨_, ?_, i + 1, A3, c3, o_3, vals ++ [.slice A2 j c2], _, _, rfl, (by omega), (hS3_o), (by rw [rowsT_succ, ← ej]; exact hK), (hT), (hH), (hNw), (hso), ⟨rfl, rfl, rfl, rfl, rfl, trivial⟩, hF.dropLast⟩
 omega
 refine c_iff rfl ?_
 refine c_exit (e_exit rfl ?_)
 refine e_seq (c_seq (c_region (o_val (x_move rfl) (o_val (x_assign rfl) (o_val (x_assign rfl) (o_nil (e_seq ?_)))))))
 refine c_ret (e_ret (post_ret (res_2 (v := .slice (A) (i) (c)) (x := .int .i64 (0)) rfl rfl rfl) ?_))
 obtain rfl : i = la.length := by omega
 exact ⟨A, c, rfl, hSo.rep (pre := [(b2, Obj.cells #[.slice Ab lb.length cb, .slice Bb fb.length eb] 30), (b1, .cells #[.slice Aa la.length ca, .slice Ba fa.length ea] 30)]) (post := []) hF hK (rowsT_len ..), hF.same⟩
set_option maxHeartbeats 1000000 in
set_option maxRecDepth 10000 in
theorem rcosts_no (S S' : Nat → Prop) (w0 : World) (la : List Str) (fa : List Int) (Aa Ba : Option Addr) (ca ea : Nat) (hLa : Rep S w0 (strsD la) [.slice Aa la.length ca]) (hNa : Rep S w0 (.slice (fa.map intD)) [.slice Ba fa.length ea]) (lb : List Str) (fb : List Int) (Ab Bb : Option Addr) (cb eb : Nat) (hLb : Rep S' w0 (strsD lb) [.slice Ab lb.length cb]) (hNb : Rep S' w0 (.slice (fb.map intD)) [.slice Bb fb.length eb]) (hR : ¬ (RightT la fa ∧ RightT lb fb)) : Calls Tryz.prog 20 #[.agg #[.slice Aa la.length ca, .slice Ba fa.length ea], .agg #[.slice Ab lb.length cb, .slice Bb fb.length eb]] w0 (Ret fun v w' => v = .tuple #[.slice none 0 0, .int .i64 1] ∧ Same [] w0 w') := by
 have hLla := hLa.slice_len
 have hNla := hNa.slice_len
 rw [List.length_map] at hLla hNla
 have hLlb := hLb.slice_len
 have hNlb := hNb.slice_len
 rw [List.length_map] at hLlb hNlb
 refine calls_start Tryz.func20 rfl Tryz.ntmps20 (Nat.le_of_ble_eq_true rfl) (args_2 _ _) ?_
 have hF := FR.start w0 []
 refine c_seq (c_region ?_)
 refine o_box (v := .agg #[.slice (Aa) (la.length) (ca), .slice (Ba) (fa.length) (ea)]) (cs := #[.slice (Aa) (la.length) (ca), .slice (Ba) (fa.length) (ea)]) hF rfl rfl ?_
 clear hF; rintro b1 w hb1 hF -
 refine o_box (v := .agg #[.slice (Ab) (lb.length) (cb), .slice (Bb) (fb.length) (eb)]) (cs := #[.slice (Ab) (lb.length) (cb), .slice (Bb) (fb.length) (eb)]) hF rfl rfl ?_
 clear hF; rintro b2 w hb2 hF -
 refine o_val (x_assign rfl) (o_val (x_assign rfl) (o_nil (e_seq (c_seq (c_region (o_val (v := .agg #[.slice (Aa) (la.length) (ca), .slice (Ba) (fa.length) (ea)]) (x_loadS (l := [.slice (Aa) (la.length) (ca), .slice (Ba) (fa.length) (ea)]) Tryz.isAgg30 Tryz.sizeOf30 rfl rfl (hF.cellsAll 1 rfl)) ?_))))))
 refine o_call (rright15_c _ _ la fa Aa Ba ca ea (hF.rep hLa) (hF.rep hNa)) (x_call1 en_34 rfl rfl) ?_
 rintro _ w ⟨ra, rfl, hra, hE⟩
 replace hF := hF.ext hE
 clear hE
 refine o_val (x_assign rfl) (o_nil (e_seq (c_seq (c_region (o_val (v := .agg #[.slice (Ab) (lb.length) (cb), .slice (Bb) (fb.length) (eb)]) (x_loadS (l := [.slice (Ab) (lb.length) (cb), .slice (Bb) (fb.length) (eb)]) Tryz.isAgg30 Tryz.sizeOf30 rfl rfl (hF.cellsAll 0 rfl)) ?_)))))
 refine o_call (rright15_c _ _ lb fb Ab Bb cb eb (hF.rep hLb) (hF.rep hNb)) (x_call1 en_34 rfl rfl) ?_
 rintro _ w ⟨rb, rfl, hrb, hE⟩
 replace hF := hF.ext hE
 clear hE
 refine o_val (x_assign rfl) (o_nil (e_seq (c_seq (c_seq (c_region (o_val (x_move rfl) (o_val (v := .bool (!(ra))) (x_not rfl) (o_val (x_move rfl) ?_))))))))
 refine o_split (d := 19) (b := !(ra)) rfl (fun hg0 => ?_) (fun hg0 => ?_)
 refine o_off (o_off (o_val (x_pickt rfl rfl) (o_nil (e_seq (c_ift rfl (c_seq (c_region (o_val (x_assign rfl) (o_val (x_assign rfl) (o_nil (e_seq ?_)))))))))))
 refine c_ret (e_ret (post_ret (res_2 (v := .slice (none) (0) (0)) (x := .int .i64 (1)) rfl rfl rfl) ?_))
 exact ⟨rfl, hF.same⟩
 refine o_val (x_move rfl) (o_val (v := .bool (!(rb))) (x_not rfl) (o_val (x_pickf rfl rfl) (o_nil (e_seq ?_))))
 refine c_split (d := 22) (b := !(rb)) rfl (fun hc0 => ?_) (fun hc0 => ?_)
 refine c_ift rfl (c_seq (c_region (o_val (x_assign rfl) (o_val (x_assign rfl) (o_nil (e_seq ?_))))))
 refine c_ret (e_ret (post_ret (res_2 (v := .slice (none) (0) (0)) (x := .int .i64 (1)) rfl rfl rfl) ?_))
 exact ⟨rfl, hF.same⟩
 exact absurd ⟨hra.1 (by simp_all), hrb.1 (by simp_all)⟩ hR
end Go.Scarf
