/- A part of the proof. -/
import Derived.Test.YtonoededmmohhaaGreatDoorX6
import Derived.Test.YtonoededmmohhaaGreatDoorV2
set_option linter.all false
namespace Go.Scarf
open Go.RowKit Go.Proofs
section
variable {P : Program} {w : World}
theorem x_sliceHi {ρ : Operand → Value} {dst : Option Nat} {ty : TypeId} {pos : String} {aft : Array Edge} {g : Option (Nat × Bool)} {t e sz : Nat} {x y : Operand} {A : Option Addr} {n c : Nat} {k : IntKind} (m : Nat) (ht : SliceOf P t e sz) (hx : ρ x = .slice A n c) (hy : ρ y = .int k (m : Int)) (hm : m ≤ c) :
    (execOp ρ ⟨dst, .slice t x none (some y) none, ty, pos, aft, g⟩).run P w = .ok (.value (.slice A m c)) w := by
  have he := elem_of ht.1
  have ht' : P.underlying t = some (.slice (P.elem t)) := by rw [he]; exact ht.1
  have h := run_slice_h (P := P) w t A n c ht' k m (by omega) (by omega)
  have hs : (sizeOf (P.elem t)).run P w = .ok sz w := by rw [he]; exact ht.2 w
  rw [hs] at h
  have e1 : sliced A 0 (m : Int).toNat c sz = .slice A m c := by
    unfold sliced
    simp only [Int.toNat_natCast, Nat.zero_mul, Nat.sub_zero]
    split
    · rfl
    · cases A <;> simp [add_zero_]
  simp only [execOp, Option.map_none, Option.map_some, hx, hy, run_sliceAt_slice w t _ _ _ _ ht', Sem.run_bind, h, Result.andThen, e1]
  rfl
end
theorem RepL.take {S : Nat → Prop} {w : World} : ∀ {ds : List D} {cs : List Value}, RepL S w ds cs → ∀ m, ∃ n, RepL S w (ds.take m) (cs.take n)
  | [], cs, h, m => ⟨0, by simp only [List.take_nil, List.take_zero]; exact RepL.nil_mk⟩
  | d :: ds, cs, h, 0 => ⟨0, RepL.nil_mk⟩
  | d :: ds, cs, h, m + 1 => by
    obtain ⟨c1, c2, rfl, h1, h2⟩ := h.cons_inv
    obtain ⟨n, hn⟩ := RepL.take h2 m
    refine ⟨c1.length + n, ?_⟩
    rw [List.take_length_add_append]
    exact RepL.cons_mk h1 hn
theorem CellsAt.take {S : Nat → Prop} {w : World} {ad : Addr} {es : List Value} (h : CellsAt S w ad es) (n : Nat) : CellsAt S w ad (es.take n) := fun j hj => by
  have hj2 : j < es.length := by rw [List.length_take] at hj; omega
  rw [List.getElem_take]
  exact h j hj2
theorem Rep.take {S : Nat → Prop} {w : World} {ds : List D} {A : Option Addr} {n c : Nat} (h : Rep S w (.slice ds) [.slice A n c]) {m : Nat} (hm : m ≤ n) : Rep S w (.slice (ds.take m)) [.slice A m c] := by
  have hl := h.slice_len
  obtain ⟨A', c', he, h1, h2, h3⟩ := h.slice_inv
  obtain ⟨rfl, -, rfl⟩ := Value.slice.inj (List.cons.inj he).1
  refine Rep.slice_mk (by rw [List.length_take]; omega) (by omega) h2 fun hne => ?_
  obtain ⟨ad, hA, es, hc, hr⟩ := h3 (fun e => by subst e; simp at hne)
  obtain ⟨k, hk⟩ := hr.take m
  exact ⟨ad, hA, _, hc.take k, hk⟩
theorem rows2 {S : Nat → Prop} {w : World} {l0 l1 : List Str} {u0 u1 : Value} (h0 : Rep S w (strsD l0) [u0]) (h1 : Rep S w (strsD l1) [u1]) : RepL S w ([l0, l1].map strsD) [u0, u1] := RepL.cons_mk h0 (RepL.cons_mk h1 RepL.nil_mk)
theorem short_uni {rows : List (List Str)} (h : ∀ l ∈ rows, ∀ s ∈ l, s.length ≤ 1024) : ∀ s ∈ unionS rows, s.length ≤ 1024 := fun s hs => by
  unfold unionS at hs
  rw [foldU_mem] at hs
  rcases hs with hs | hs
  · cases hs
  · obtain ⟨l, hl, h1⟩ := List.mem_flatten.1 hs
    exact h l hl s h1
theorem uni_len (a b : List Str) : (unionS [a]).length ≤ (unionS [a, b]).length ∧ (unionS [a, b]).length ≤ a.length + b.length ∧ unionS [a] = (unionS [a, b]).take (unionS [a]).length := by
  obtain ⟨r, h1, h2⟩ := union_first a b
  have h3 := union_len a
  have h4 : (unionS [a, b]).length = (unionS [a]).length + r.length := by rw [h1, List.length_append]
  exact ⟨by omega, by omega, by rw [h1, List.take_left']; rfl⟩
theorem str_atU {S : Nat → Prop} {w : World} {ls : List Str} {B : Option Addr} {n e : Nat} {ad : Addr} (h : Rep S w (strsD ls) [.slice B n e]) (hA : B = some ad) {i : Nat} (hi : i < ls.length) : w.cell? (ad.add (i * 1)) = some (.string (bs ls[i])) := by
  obtain ⟨ad', hA', hc, -⟩ := h.str_elem hi
  rw [hA] at hA'
  obtain rfl := Option.some.inj hA'
  exact hc
theorem nodup_ne {l : List Str} (h : l.Nodup) {i k : Nat} (hi : i < l.length) (hk : k < i) : ¬ (l[k]'(by omega) = l[i]) := fun e => by
  exact List.pairwise_iff_getElem.1 h k i (by omega) hi hk e
set_option maxHeartbeats 4000000 in
set_option maxRecDepth 10000 in
theorem keyedOnce_w (w0 : World) (hG : Gl w0) (l0 : List Str) (A0 : Option Addr) (c0 : Nat) (r0 : Rep (fun _ => True) w0 (strsD l0) [.slice A0 l0.length c0]) (l1 : List Str) (A1 : Option Addr) (c1 : Nat) (r1 : Rep (fun _ => True) w0 (strsD l1) [.slice A1 l1.length c1]) : Calls Tryz.prog 4 #[.slice A0 l0.length c0, .slice A1 l1.length c1] w0 (Ret fun v w' => v = .bool true ∧ Same [] w0 w') := by
 refine calls_start Tryz.func4 rfl Tryz.ntmps4 (Nat.le_of_ble_eq_true rfl) (args_2 _ _) ?_
 have hF := FR.start w0 []
 refine c_seq (c_region (o_val (x_assign rfl) (o_nil (e_seq (c_seq (c_region ?_))))))
 refine o_call (small19_c _ (hG.ext hF.same)) (x_call0 en_6 rfl) ?_
 rintro _ w ⟨rfl, hE⟩
 replace hF := hF.ext hE
 clear hE
 refine o_val (x_assign rfl) (o_nil (e_seq (c_seq (c_region (o_val (x_move rfl) ?_)))))
 refine o_call (shortL_c l0 A0 c0 _ _ (hF.rep r0)) (x_call1 en_7 rfl rfl) ?_
 rintro _ w ⟨rfl, hE⟩
 replace hF := hF.ext hE
 clear hE
 refine o_val (x_move rfl) ?_
 refine o_split (d := 15) (b := shortL l0) rfl (fun hg0 => ?_) (fun hg0 => ?_)
 refine o_val (x_move rfl) ?_
 refine o_call (shortL_c l1 A1 c1 _ _ (hF.rep r1)) (x_call1 en_7 rfl rfl) ?_
 rintro _ w ⟨rfl, hE⟩
 replace hF := hF.ext hE
 clear hE
 refine o_val (x_pickt rfl rfl) (o_val (x_assign rfl) (o_nil (e_seq (c_seq (c_seq (c_region (o_val (x_move rfl) (o_val (v := .bool (!(shortL l1))) (x_not rfl) (o_nil (e_seq ?_))))))))))
 refine c_split (d := 20) (b := !(shortL l1)) rfl (fun hc0 => ?_) (fun hc0 => ?_)
 refine c_ift rfl (c_seq (c_region (o_val (x_move rfl) (o_val (x_assign rfl) (o_nil (e_seq ?_))))))
 refine c_ret (e_ret (post_ret (res_1 (v := .bool true) rfl rfl) ?_))
 exact ⟨rfl, hF.same⟩
 refine c_iff rfl (c_skip (e_seq (c_seq (c_region (o_val (x_move rfl) (o_val (x_move rfl) ?_))))))
 refine o_new (v := fun b => .slice (some ⟨b, 0, none⟩) 2 2) hF (x_buildSlice (cs := #[.slice (A0) (l0.length) (c0), .slice (A1) (l1.length) (c1)]) Tryz.underlying28 Tryz.sizeOf22 Tryz.zeroValue22 (by decide) (by decide) (by kernel_rfl)) ?_
 clear hF; rintro b1 w hb1 hF -
 have g0 := shortL_ok (l := l0) (by simp_all)
 have g1 := shortL_ok (l := l1) (by simp_all)
 have gU : ∀ s ∈ unionS [l0, l1], s.length ≤ 1024 := short_uni (by simp only [List.mem_cons, List.not_mem_nil, or_false]; rintro l (rfl | rfl) <;> first | exact g0.2 | exact g1.2)
 have gV : ∀ s ∈ unionS [l0], s.length ≤ 1024 := short_uni (by simp only [List.mem_cons, List.not_mem_nil, or_false]; rintro l rfl; exact g0.2)
 obtain ⟨gl, gm, gt⟩ := uni_len l0 l1
 have gn := union_nodup [l0, l1]
 have ga := union_again l0 l1
 refine o_call (union_c [l0, l1] _ _ _ _ (show Rep (fun _ => True) _ (.slice ([l0, l1].map strsD)) [.slice (some ⟨b1, 0, none⟩) 2 2] from Rep.slice_mk (by simp) (Nat.le_refl 2) (by omega) (fun _ => ⟨_, rfl, _, fun j hj => ⟨hF.cellsAll 0 rfl j hj, trivial⟩, rows2 (hF.rep r0) (hF.rep r1)⟩)) (by simp; omega) (fun s hs => by have := gU s hs; omega)) (x_call1 en_9 rfl rfl) ?_
 rintro _ w ⟨A_u, c_u, rfl, hU_, hE⟩
 have hu : Rep (fun _ => True) w (strsD (unionS [l0, l1])) [.slice A_u (unionS [l0, l1]).length c_u] := hU_.weaken fun _ _ _ => trivial
 replace hF := hF.ext hE
 clear hE hU_
 refine o_val (x_assign rfl) (o_nil (e_seq (c_seq (c_seq (c_region (o_val (x_assign rfl) (o_nil (e_seq (c_block ?_)))))))))
 refine c_loop (fun μ σ w => ∃ (i : Nat), μ = (unionS [l0, l1]).length - i ∧ (i ≤ (unionS [l0, l1]).length) ∧ (Rep (fun _ => True) w (strsD (unionS [l0, l1])) [.slice A_u (unionS [l0, l1]).length c_u]) ∧ AllEq σ [(0, .slice (A0) (l0.length) (c0)), (1, .slice (A1) (l1.length) (c1)), (5, .bool true), (7, .slice (A_u) ((unionS [l0, l1]).length) (c_u)), (8, .int .i64 ((i : Int)))] ∧ FR w0 [] [(b1, .cells #[.slice (A0) (l0.length) (c0), .slice (A1) (l1.length) (c1)] 22)] w) _ ⟨0, rfl, (Nat.zero_le _), (hu), ⟨rfl, rfl, rfl, rfl, rfl, trivial⟩, hF⟩ ?_
 clear hF; rintro μ σ w ⟨i, rfl, hi, hu, hs, hF⟩
 refine Cg.slots hs ?_
 clear hs; intro σ
 refine c_seq (c_seq (c_region (o_val (x_move rfl) (o_val (x_move rfl) (o_val (v := .int .i64 (((unionS [l0, l1]).length : Nat))) (x_len_slice Tryz.underlying22 rfl) (o_val (v := .bool (decide (((i : Int) : Int) < (((unionS [l0, l1]).length : Nat) : Int)))) (x_lss rfl rfl) (o_nil (e_seq ?_))))))))
 refine c_splitd (d := 29) (p := ((i : Int) : Int) < (((unionS [l0, l1]).length : Nat) : Int)) rfl (fun hc1 => ?_) (fun hc1 => ?_)
 refine c_ift rfl (c_skip (e_seq (c_seq (c_block (c_seq (c_region (o_val (x_assign rfl) (o_nil (e_seq (c_block ?_))))))))))
 refine c_loop (fun μ σ w => ∃ (k : Nat), μ = i - k ∧ (k ≤ i) ∧ (Rep (fun _ => True) w (strsD (unionS [l0, l1])) [.slice A_u (unionS [l0, l1]).length c_u]) ∧ AllEq σ [(0, .slice (A0) (l0.length) (c0)), (1, .slice (A1) (l1.length) (c1)), (5, .bool true), (7, .slice (A_u) ((unionS [l0, l1]).length) (c_u)), (8, .int .i64 ((i : Int))), (9, .int .i64 ((k : Int)))] ∧ FR w0 [] [(b1, .cells #[.slice (A0) (l0.length) (c0), .slice (A1) (l1.length) (c1)] 22)] w) _ ⟨0, rfl, (Nat.zero_le _), (hu), ⟨rfl, rfl, rfl, rfl, rfl, rfl, trivial⟩, hF⟩ ?_
 clear hF; rintro μ σ w ⟨k, rfl, hk, hu, hs, hF⟩
 refine Cg.slots hs ?_
 clear hs; intro σ
 refine c_seq (c_seq (c_region (o_val (x_move rfl) (o_val (x_move rfl) (o_val (v := .bool (decide (((k : Int) : Int) < ((i : Int) : Int)))) (x_lss rfl rfl) (o_nil (e_seq ?_)))))))
 refine c_splitd (d := 34) (p := ((k : Int) : Int) < ((i : Int) : Int)) rfl (fun hc2 => ?_) (fun hc2 => ?_)
 refine c_ift rfl (c_skip (e_seq (c_seq (c_block (c_seq ?_)))))
 obtain ⟨adu, hAu⟩ : ∃ ad, A_u = some ad := by obtain ⟨ad, h, -⟩ := hu.str_elem (i := i) (by omega); exact ⟨ad, h⟩
 refine c_drawF [] (.free 0 (.free 1 (.free 2 (.free 3 (.free 4 (.free 5 (.free 6 (.free 7 (.free 8 .nil))))))))) (by kernel_rfl) hF (by kernel_rfl) (by kernel_rfl) ?_
 clear hF; intro w hF hE
 replace hu := hu.ext hE
 clear hE
 refine ⟨fun wq => FR w0 [] [(b1, .cells #[.slice (A0) (l0.length) (c0), .slice (A1) (l1.length) (c1)] 22)] wq ∧ Rep (fun _ => True) wq (strsD (unionS [l0, l1])) [.slice A_u (unionS [l0, l1]).length c_u], ⟨hF, hu⟩, ?_⟩
 refine f_free rfl (v := .slice (A_u) ((unionS [l0, l1]).length) (c_u)) (fun w hC => x_move rfl) (f_free rfl (v := .int .i64 ((k : Int))) (fun w hC => x_move rfl) (f_free rfl (v := .pointer (some (adu.add (k * 1)))) (fun w hC => x_indexAddrA (i := ((k : Nat) : Int)) sl_22 rfl hAu rfl (by omega) (by omega)) (f_free rfl (v := .string (bs ((unionS [l0, l1])[k]))) (fun w hC => x_load Tryz.isAgg9 rfl (str_atU hC.2 hAu (by omega))) (f_free rfl (v := .slice (A_u) ((unionS [l0, l1]).length) (c_u)) (fun w hC => x_move rfl) (f_free rfl (v := .int .i64 ((i : Int))) (fun w hC => x_move rfl) (f_free rfl (v := .pointer (some (adu.add (i * 1)))) (fun w hC => x_indexAddrA (i := ((i : Nat) : Int)) sl_22 rfl hAu rfl (by omega) (by omega)) (f_free rfl (v := .string (bs ((unionS [l0, l1])[i]))) (fun w hC => x_load Tryz.isAgg9 rfl (str_atU hC.2 hAu (by omega))) (f_free rfl (v := .bool false) (fun w hC => run_false (x_eqls rfl rfl) (nodup_ne gn (by omega) (by omega))) (d_nil (e_seq (c_iff rfl (c_skip (e_block ?_)))))))))))))
 refine e_seq (c_region (o_val (x_move rfl) (o_val (v := .int .i64 (((k + 1 : Nat) : Int))) (x_add rfl rfl (wrap_to (by omega) (by omega) (by omega))) (o_val (x_assign rfl) (o_nil ?_)))))
 refine e_inv ⟨_, ?_, k + 1, rfl, (by omega), (hu), ⟨rfl, rfl, rfl, rfl, rfl, rfl, trivial⟩, hF⟩
 omega
 refine c_iff rfl ?_
 refine c_exit (e_exit rfl ?_)
 refine e_block (e_seq (c_region (o_val (x_move rfl) (o_val (v := .int .i64 (((i + 1 : Nat) : Int))) (x_add rfl rfl (wrap_to (by omega) (by omega) (by omega))) (o_val (x_assign rfl) (o_nil ?_))))))
 refine e_inv ⟨_, ?_, i + 1, rfl, (by omega), (hu), ⟨rfl, rfl, rfl, rfl, rfl, trivial⟩, hF⟩
 omega
 refine c_iff rfl ?_
 refine c_exit (e_exit rfl ?_)
 refine e_seq (c_seq (c_region (o_val (x_move rfl) (o_val (x_move rfl) (o_val (x_move rfl) ?_)))))
 refine o_new (v := fun b => .slice (some ⟨b, 0, none⟩) 3 3) hF (x_buildSlice (cs := #[.slice (A_u) ((unionS [l0, l1]).length) (c_u), .slice (A0) (l0.length) (c0), .slice (A1) (l1.length) (c1)]) Tryz.underlying28 Tryz.sizeOf22 Tryz.zeroValue22 (by decide) (by decide) (by kernel_rfl)) ?_
 clear hF; intro b2 w hb2 hF hE
 replace hu := hu.ext hE
 clear hE
 refine o_call (union_c [unionS [l0, l1], l0, l1] _ _ _ _ (show Rep (fun _ => True) _ (.slice ([unionS [l0, l1], l0, l1].map strsD)) [.slice (some ⟨b2, 0, none⟩) 3 3] from Rep.slice_mk (by simp) (Nat.le_refl 3) (by omega) (fun _ => ⟨_, rfl, _, fun j hj => ⟨hF.cellsAll 0 rfl j hj, trivial⟩, rows3 hu (hF.rep r0) (hF.rep r1)⟩)) (by simp; omega) (fun s hs => by rw [ga] at hs; have := gU s hs; omega)) (x_call1 en_9 rfl rfl) ?_
 rintro _ w ⟨A_v, c_v, rfl, hU_, hE⟩
 rw [ga] at hU_ ⊢
 have hv : Rep (fun _ => True) w (strsD (unionS [l0, l1])) [.slice A_v (unionS [l0, l1]).length c_v] := hU_.weaken fun _ _ _ => trivial
 replace hu := hu.ext hE
 replace hF := hF.ext hE
 clear hE hU_
 refine o_val (x_assign rfl) (o_nil (e_seq (c_seq (c_region (o_val (x_move rfl) ?_)))))
 refine o_new (v := fun b => .slice (some ⟨b, 0, none⟩) 1 1) hF (x_buildSlice (cs := #[.slice (A0) (l0.length) (c0)]) Tryz.underlying28 Tryz.sizeOf22 Tryz.zeroValue22 (by decide) (by decide) (by kernel_rfl)) ?_
 clear hF; intro b3 w hb3 hF hE
 replace hu := hu.ext hE
 replace hv := hv.ext hE
 clear hE
 refine o_call (union_c [l0] _ _ _ _ (show Rep (fun _ => True) _ (.slice ([l0].map strsD)) [.slice (some ⟨b3, 0, none⟩) 1 1] from Rep.slice_mk (by simp) (Nat.le_refl 1) (by omega) (fun _ => ⟨_, rfl, _, fun j hj => ⟨hF.cellsAll 0 rfl j hj, trivial⟩, RepL.single (hF.rep r0)⟩)) (by simp; omega) (fun s hs => by have := gV s hs; omega)) (x_call1 en_9 rfl rfl) ?_
 rintro _ w ⟨A_n, c_n, rfl, hU_, hE⟩
 have hn : Rep (fun _ => True) w (strsD (unionS [l0])) [.slice A_n (unionS [l0]).length c_n] := hU_.weaken fun _ _ _ => trivial
 replace hu := hu.ext hE
 replace hv := hv.ext hE
 replace hF := hF.ext hE
 clear hE hU_
 refine o_val (x_assign rfl) (o_nil (e_seq (c_seq (c_region (o_val (x_move rfl) (o_val (x_move rfl) (o_val (x_move rfl) (o_val (x_move rfl) ?_))))))))
 refine o_call (ret_eq (v' := .bool true) (same07_c (unionS [l0, l1]) (unionS [l0, l1]) _ _ _ _ _ _ _ hu hv) (congrArg Value.bool (decide_eq_true rfl))) (x_call2 en_8 rfl rfl rfl) ?_
 rintro _ w ⟨rfl, hE⟩
 replace hF := hF.ext hE
 replace hu := hu.ext hE
 replace hv := hv.ext hE
 replace hn := hn.ext hE
 clear hE
 refine o_val (x_pickt rfl rfl) (o_val (x_move rfl) (o_val (x_move rfl) (o_val (v := .int .i64 (((unionS [l0]).length : Nat))) (x_len_slice Tryz.underlying22 rfl) (o_val (x_move rfl) (o_val (v := .int .i64 (((unionS [l0, l1]).length : Nat))) (x_len_slice Tryz.underlying22 rfl) (o_val (v := .bool true) (run_true (x_leq rfl rfl) (by omega)) (o_val (x_pickt rfl rfl) (o_val (x_move rfl) (o_val (x_move rfl) (o_val (x_move rfl) (o_val (x_move rfl) (o_val (v := .int .i64 (((unionS [l0]).length : Nat))) (x_len_slice Tryz.underlying22 rfl) ?_))))))))))))
 refine o_val (v := .slice (A_u) ((unionS [l0]).length) (c_u)) (x_sliceHi (unionS [l0]).length sl_22 rfl rfl (by have := hu.slice_len; simp only [List.length_map] at this; omega)) ?_
 refine o_call (ret_eq (v' := .bool true) (same07_c (unionS [l0]) (unionS [l0]) _ _ _ _ _ _ _ hn (by have h := hu.take gl; rw [← List.map_take, ← gt] at h; exact h)) (congrArg Value.bool (decide_eq_true rfl))) (x_call2 en_8 rfl rfl rfl) ?_
 rintro _ w ⟨rfl, hE⟩
 replace hF := hF.ext hE
 replace hu := hu.ext hE
 replace hv := hv.ext hE
 replace hn := hn.ext hE
 clear hE
 refine o_val (x_pickt rfl rfl) (o_val (x_move rfl) (o_val (x_move rfl) (o_val (v := .int .i64 (((unionS [l0, l1]).length : Nat))) (x_len_slice Tryz.underlying22 rfl) (o_val (x_move rfl) (o_val (v := .int .i64 ((l0.length : Nat))) (x_len_slice Tryz.underlying22 rfl) (o_val (x_move rfl) (o_val (v := .int .i64 ((l1.length : Nat))) (x_len_slice Tryz.underlying22 rfl) (o_val (v := .int .i64 (((l0.length : Nat) : Int) + (l1.length : Nat))) (x_add rfl rfl (wrap_id (by omega) (by omega))) (o_val (v := .bool true) (run_true (x_leq rfl rfl) (by omega)) (o_val (x_pickt rfl rfl) (o_val (x_assign rfl) (o_nil (e_seq ?_)))))))))))))
 refine c_ret (e_ret (post_ret (res_1 (v := .bool true) rfl rfl) ?_))
 exact ⟨rfl, hF.same⟩
 refine o_off (o_off (o_val (x_pickf rfl rfl) (o_val (x_assign rfl) (o_nil (e_seq (c_seq (c_seq (c_region (o_val (x_move rfl) (o_val (v := .bool true) (x_not (b := false) rfl) (o_nil (e_seq (c_ift rfl ?_)))))))))))))
 refine c_seq (c_region (o_val (x_move rfl) (o_val (x_assign rfl) (o_nil (e_seq ?_)))))
 refine c_ret (e_ret (post_ret (res_1 (v := .bool true) rfl rfl) ?_))
 exact ⟨rfl, hF.same⟩
end Go.Scarf
