/- A part of the proof. -/
import Derived.Test.YtonoededmmohhaaGreatDoorW10
import Derived.Test.YtonoededmmohhaaGreatDoorFacts
import Derived.Test.YtonoededmmohhaaGreatDoorMore
import Derived.Test.YtonoededmmohhaaGreatDoorIter
set_option linter.all false
namespace Go.Scarf
open Go.RowKit Go.Proofs
mutual
def keysT : Tree → Nat | .node _ _ ks xs => ks.length + keysTs xs
def keysTs : List Tree → Nat | [] => 0 | x :: xs => keysT x + keysTs xs
end
theorem keysTs_mem : ∀ {xs : List Tree} {x : Tree}, x ∈ xs → keysT x ≤ keysTs xs
  | [], _, h => absurd h (by simp)
  | y :: ys, x, h => by
    rw [keysTs]
    rcases List.mem_cons.1 h with rfl | h
    · omega
    · have := keysTs_mem h; omega
theorem treesD_take {xs : List Tree} {j : Nat} (h : j < xs.length) : treesD (xs.take (j + 1)) = treesD (xs.take j) ++ [treeD xs[j]] := by
  rw [List.take_succ_eq_append_getElem h, treesD_eq, treesD_eq, List.map_append]; rfl
theorem treesD_drop {xs : List Tree} {j : Nat} (h : j < xs.length) : treesD (xs.drop j) = treeD xs[j] :: treesD (xs.drop (j + 1)) := by
  rw [List.drop_eq_getElem_cons h]; rfl
theorem RepL.lits {S S' : Nat → Prop} {w w' : World} : ∀ {ks : List Str} {cs : List Value}, RepL S w (ks.map strD) cs → RepL S' w' (ks.map strD) cs
  | [], cs, h => by have := RepL.nil_inv h; subst this; exact RepL.nil_mk
  | k :: ks, cs, h => by
    obtain ⟨c1, c2, rfl, h1, h2⟩ := RepL.cons_inv h
    obtain ⟨rfl, h3⟩ := Rep.lit_inv h1
    exact RepL.cons_mk (Rep.lit_mk h3) (RepL.lits h2)
def Lie (w : World) (A : Option Addr) (n : Nat) (es : List Value) : Prop := n ≠ 0 → ∃ ad, A = some ad ∧ ∀ j (hj : j < es.length), w.cell? (ad.add j) = some es[j]
theorem Lie.ext {w w' : World} {A : Option Addr} {n : Nat} {es : List Value} (h : Lie w A n es) (hs : Same [] w w') : Lie w' A n es := fun hn => by
  obtain ⟨ad, hA, hc⟩ := h hn
  exact ⟨ad, hA, fun j hj => ((FR.start w []).ext hs).cells0 hc j hj⟩
def ClonedC (e m n : Nat) (es : List Value) (w0 : World) (v : Value) (w' : World) : Prop :=
  ∃ A c sb, v = .slice A n c ∧ SlB e m A n c es sb ∧ (∀ p ∈ sb, w'.heap[p.1]? = some p.2 ∧ w0.heap.size ≤ p.1) ∧ Same [] w0 w'
theorem Rep.slice_open {S : Nat → Prop} {w : World} {ds : List D} {A : Option Addr} {n c m : Nat} (h : Rep S w (.slice ds) [.slice A n c]) (hm : ∀ d ∈ ds, sizeOfD d = m) :
    ∃ es, RepL S w ds es ∧ es.length = n * m ∧ Lie w A n es := by
  have hl := h.slice_len
  obtain ⟨A', c', hA, _, _, hr⟩ := Rep.slice_inv h
  simp only [List.cons.injEq, Value.slice.injEq, and_true] at hA
  obtain ⟨rfl, _, _⟩ := hA
  have hsz : ∀ ds : List D, (∀ d ∈ ds, sizeOfD d = m) → sizeOfD.sizeL ds = ds.length * m := by
    intro ds
    induction ds with
    | nil => intro _; simp [sizeOfD.sizeL]
    | cons d ds ih => intro h; rw [sizeOfD.sizeL, h d (by simp), ih (fun x hx => h x (by simp [hx])), List.length_cons, Nat.add_mul]; omega
  by_cases hne : ds = []
  · subst hne
    exact ⟨[], RepL.nil_mk, by simp [hl.1], fun h => absurd hl.1 (by simpa using h)⟩
  · obtain ⟨ad, rfl, es, hc, hr⟩ := hr hne
    exact ⟨es, hr, by rw [hr.length, hsz ds hm, hl.1], fun _ => ⟨ad, rfl, fun j hj => (hc j hj).1⟩⟩
theorem size_strs (ks : List Str) : ∀ d ∈ ks.map strD, sizeOfD d = 1 := fun d hd => by obtain ⟨k, _, rfl⟩ := List.mem_map.1 hd; rfl
theorem size_trees (xs : List Tree) : ∀ d ∈ treesD xs, sizeOfD d = 4 := fun d hd => by rw [treesD_eq] at hd; obtain ⟨k, _, rfl⟩ := List.mem_map.1 hd; exact size_treeD k
theorem FR.sbown {w0 w : World} {pre sb post : List (Nat × Obj)} (h : FR w0 [] (pre ++ (sb ++ post)) w) : ∀ p ∈ sb, w.heap[p.1]? = some p.2 ∧ w0.heap.size ≤ p.1 := fun p hp => by
  have := h.own p (by simp [hp])
  refine ⟨this.1, ?_⟩
  rcases this.2 with h | h
  · exact h
  · cases h
theorem SlB.soft {e m n c : Nat} {A : Option Addr} {es : List Value} {sb : List (Nat × Obj)} {w : World} (h : SlB e m A n c es sb) (hb : ∀ p ∈ sb, w.heap[p.1]? = some p.2) : ∀ p ∈ sb, Soft w p.1 := fun p hp => by
  have h2 : ∃ cur, p = (p.1, .cells cur e) := by
    rcases h.2 with ⟨-, -, rfl⟩ | ⟨g, cur, -, rfl, -⟩
    · cases hp
    · simp only [List.mem_singleton] at hp; subst hp; exact ⟨cur, rfl⟩
  obtain ⟨cur, h2⟩ := h2
  have := hb p hp
  rw [h2] at this
  exact ⟨cur, e, this⟩
theorem SlB.btw {e m n c : Nat} {A : Option Addr} {es : List Value} {sb : List (Nat × Obj)} {w w' : World} {ds : List D} (h : SlB e m A n c es sb) (hb : ∀ p ∈ sb, w'.heap[p.1]? = some p.2 ∧ w.heap.size ≤ p.1) (hr : RepL (Btw w w') w' ds es) (hn : ds.length = n) : Rep (Btw w w') w' (.slice ds) [.slice A n c] :=
  h.repOf (fun p hp => ⟨(hb p hp).1, (hb p hp).2, lt_of_some (hb p hp).1, h.soft (fun p hp => (hb p hp).1) p hp⟩) hr hn
theorem cloned_strs {S : Nat → Prop} {w0 w w' : World} {ks : List Str} {es : List Value} {v : Value} (h : ClonedC 9 1 ks.length es w v w') (hr : RepL S w0 (ks.map strD) es) : ∃ A c, v = .slice A ks.length c ∧ Rep (Btw w w') w' (strsD ks) [.slice A ks.length c] ∧ Same [] w w' := by
  obtain ⟨A, c, sb, rfl, hS, hb, hE⟩ := h
  exact ⟨A, c, rfl, hS.btw hb hr.lits (by simp), hE⟩
set_option maxHeartbeats 1000000 in
set_option maxRecDepth 10000 in
theorem clone22_c (len : Nat) (A : Option Addr) (c : Nat) (es : List Value) (w0 : World) (hel : es.length = len * 1) (hcell : Lie w0 A len es) (ho : ∀ v ∈ es, one v = true) (hb : len ≤ 8796093022208) : Calls Tryz.prog 73 #[.slice A len c] w0 (Ret fun v w' => ClonedC 9 1 len es w0 v w') := by
 refine calls_start Tryz.func73 rfl Tryz.ntmps73 (Nat.le_of_ble_eq_true rfl) (args_1 _) ?_
 have hF := FR.start w0 []
 refine c_seq (c_region (o_val (x_assign rfl) (o_nil (e_seq (c_seq (c_seq (c_region (o_val (x_move rfl) (o_val (v := .bool ((A).isNone)) (x_eqlSlNil Tryz.underlying22 rfl rfl) (o_nil (e_seq ?_)))))))))))
 refine c_split (d := 4) (b := (A).isNone) rfl (fun hc0 => ?_) (fun hc0 => ?_)
 have hA : A = none := by simpa using hc0
 refine c_ift rfl (c_seq (c_region (o_val (x_assign rfl) (o_nil (e_seq ?_)))))
 refine c_ret (e_ret (post_ret (res_1 (v := .slice (none) (0) (0)) rfl rfl) ?_))
 have h0 : len = 0 := by rcases Nat.eq_zero_or_pos len with h | h; exact h; obtain ⟨ad, hh, _⟩ := hcell (by omega); rw [hA] at hh; cases hh
 have hes : es = [] := List.eq_nil_of_length_eq_zero (by rw [hel, h0, Nat.zero_mul])
 subst hes
 exact ⟨none, 0, [], by rw [h0], by rw [h0]; exact SlB.nil _ _, by simp, hF.same⟩
 refine c_iff rfl (c_skip (e_seq (c_seq (c_region ?_))))
 refine o_new (v := fun b => .slice (some ⟨b, 0, none⟩) 0 0) hF (x_buildSlice0 Tryz.underlying22 Tryz.sizeOf9) ?_
 clear hF; rintro b1 w hb1 hF -
 have hS0 : SlB 9 1 (some ⟨b1, 0, none⟩) 0 0 [] [(b1, .cells #[] 9)] := ⟨by simp, .inr ⟨b1, #[], rfl, rfl, Nat.le_refl _, Nat.zero_le _, by simp, by simp⟩⟩
 refine o_val (x_move rfl) ?_
 refine o_append [] [] (news := es) (len' := 0 + len) (ys := [] ++ es) el_22 hF hS0 rfl rfl (by rw [hel]) (fun hk => by obtain ⟨ad, hA, hc⟩ := hcell hk; exact ⟨ad, hA, cells_opt (hF.cells0 hc)⟩) (ones_eq ho) (by simp only [maxLen]; omega) (rfl) (rfl) (by omega) ?_
 clear hF; intro A0 c0 a_0 w hS0_a hF hE hnew
 clear hE hnew
 refine o_val (x_assign rfl) (o_nil (e_seq ?_))
 refine c_ret (e_ret (post_ret (res_1 (v := .slice (A0) (0 + len) (c0)) rfl rfl) ?_))
 simp only [Nat.zero_add, List.nil_append] at *
 exact ⟨_, _, _, rfl, by assumption, hF.sbown (pre := []) (post := []), hF.same⟩
set_option maxHeartbeats 1000000 in
set_option maxRecDepth 10000 in
theorem clone23_c (len : Nat) (A : Option Addr) (c : Nat) (es : List Value) (w0 : World) (hel : es.length = len * 4) (hcell : Lie w0 A len es) (ho : ∀ v ∈ es, one v = true) (hb : len ≤ 1000000000) : Calls Tryz.prog 74 #[.slice A len c] w0 (Ret fun v w' => ClonedC 32 4 len es w0 v w') := by
 refine calls_start Tryz.func74 rfl Tryz.ntmps74 (Nat.le_of_ble_eq_true rfl) (args_1 _) ?_
 have hF := FR.start w0 []
 refine c_seq (c_region (o_val (x_assign rfl) (o_nil (e_seq (c_seq (c_seq (c_region (o_val (x_move rfl) (o_val (v := .bool ((A).isNone)) (x_eqlSlNil Tryz.underlying30 rfl rfl) (o_nil (e_seq ?_)))))))))))
 refine c_split (d := 4) (b := (A).isNone) rfl (fun hc0 => ?_) (fun hc0 => ?_)
 have hA : A = none := by simpa using hc0
 refine c_ift rfl (c_seq (c_region (o_val (x_assign rfl) (o_nil (e_seq ?_)))))
 refine c_ret (e_ret (post_ret (res_1 (v := .slice (none) (0) (0)) rfl rfl) ?_))
 have h0 : len = 0 := by rcases Nat.eq_zero_or_pos len with h | h; exact h; obtain ⟨ad, hh, _⟩ := hcell (by omega); rw [hA] at hh; cases hh
 have hes : es = [] := List.eq_nil_of_length_eq_zero (by rw [hel, h0, Nat.zero_mul])
 subst hes
 exact ⟨none, 0, [], by rw [h0], by rw [h0]; exact SlB.nil _ _, by simp, hF.same⟩
 refine c_iff rfl (c_skip (e_seq (c_seq (c_region ?_))))
 refine o_new (v := fun b => .slice (some ⟨b, 0, none⟩) 0 0) hF (x_buildSlice0 Tryz.underlying30 Tryz.sizeOf32) ?_
 clear hF; rintro b1 w hb1 hF -
 have hS0 : SlB 32 4 (some ⟨b1, 0, none⟩) 0 0 [] [(b1, .cells #[] 32)] := ⟨by simp, .inr ⟨b1, #[], rfl, rfl, Nat.le_refl _, Nat.zero_le _, by simp, by simp⟩⟩
 refine o_val (x_move rfl) ?_
 refine o_append [] [] (news := es) (len' := 0 + len) (ys := [] ++ es) el_30 hF hS0 rfl rfl (by rw [hel]) (fun hk => by obtain ⟨ad, hA, hc⟩ := hcell hk; exact ⟨ad, hA, cells_opt (hF.cells0 hc)⟩) (ones_eq ho) (by simp only [maxLen]; omega) (rfl) (rfl) (by omega) ?_
 clear hF; intro A0 c0 a_0 w hS0_a hF hE hnew
 clear hE hnew
 refine o_val (x_assign rfl) (o_nil (e_seq ?_))
 refine c_ret (e_ret (post_ret (res_1 (v := .slice (A0) (0 + len) (c0)) rfl rfl) ?_))
 simp only [Nat.zero_add, List.nil_append] at *
 exact ⟨_, _, _, rfl, by assumption, hF.sbown (pre := []) (post := []), hF.same⟩
def NewC (F : Nat) (args : Array Value) (d : D) (w0 : World) : Prop := Calls Tryz.prog F args w0 (Ret fun v w' => ∃ ct : List Value, v = .agg ct.toArray ∧ Rep (Btw w0 w') w' d ct ∧ Same [] w0 w')
def CloneC (x : Tree) : Prop := ∀ S w0 cs, Rep S w0 (treeD x) cs → sizeT x ≤ 1000000000 → (keysT x ≤ 8796093022208) → NewC 54 #[.agg cs.toArray] (treeD x) w0
set_option maxHeartbeats 4000000 in
set_option maxRecDepth 10000 in
theorem clone_step (k : Int) (t : Str) (ks : List Str) (xs : List Tree) (ih : ∀ x, x ∈ xs → CloneC x) : CloneC (.node k t ks xs) := by
 intro S w0 cs hR hsz hky
 rw [sizeT] at hsz
 rw [keysT] at hky
 have hxn := sizeTs_len xs
 obtain ⟨A, c, B, e, rfl, hk, ht, hK, hX⟩ := hR.tree_inv
 obtain ⟨eK, hrK, hKl, hKc⟩ := hK.slice_open (size_strs ks)
 obtain ⟨eX, hrX, hXl, hXc⟩ := hX.slice_open (size_trees xs)
 refine calls_start Tryz.func54 rfl Tryz.ntmps54 (Nat.le_of_ble_eq_true rfl) (args_1 _) ?_
 have hF := FR.start w0 []
 refine c_seq (c_region ?_)
 refine o_box (v := .agg #[.int .i64 (k), .string (bs (t)), .slice (A) (ks.length) (c), .slice (B) (xs.length) (e)]) (cs := #[.int .i64 (k), .string (bs (t)), .slice (A) (ks.length) (c), .slice (B) (xs.length) (e)]) hF rfl rfl ?_
 clear hF; rintro b1 w hb1 hF -
 refine o_alloc (cs := #[.int .i64 (0), .string (bs ([])), .slice (none) (0) (0), .slice (none) (0) (0)]) hF Tryz.zeroValue32 rfl ?_
 clear hF; rintro b2 w hb2 hF -
 refine o_nil (e_seq (c_seq ?_))
 refine c_drawF [9, 7] (.free 0 (.free 1 (.free 3 (.free 4 (.act 2 (.free 6 (.act 5 (.act 7 (.free 8 (.act 9 .nil)))))))))) (by kernel_rfl) hF (by kernel_rfl) (by kernel_rfl) ?_
 clear hF; rintro w hF -
 refine ⟨fun wq => FR w0 [] [(b2, .cells #[.int .i64 (0), .string (bs ([])), .slice (none) (0) (0), .slice (none) (0) (0)] 32), (b1, .cells #[.int .i64 (k), .string (bs (t)), .slice (A) (ks.length) (c), .slice (B) (xs.length) (e)] 32)] wq, hF, ?_⟩
 refine f_free rfl (v := .pointer (some ⟨b1, 2, none⟩)) (fun w hC => x_fieldAddrO fa_32_2 rfl) (f_free rfl (v := .slice (A) (ks.length) (c)) (fun w hC => x_load Tryz.isAgg22 rfl (hC.cell 1 rfl rfl)) (f_free rfl (v := .pointer (some ⟨b1, 3, none⟩)) (fun w hC => x_fieldAddrO fa_32_3 rfl) (f_free rfl (v := .slice (B) (xs.length) (e)) (fun w hC => x_load Tryz.isAgg30 rfl (hC.cell 1 rfl rfl)) ?_)))
 refine f_call rfl (clone22_c ks.length A c eK _ hKl (Lie.ext hKc hF.same) hrK.one_ (by omega)) (x_call1 en_73 rfl rfl) ?_
 rintro _ w hcl
 obtain ⟨A1, c1, rfl, hK1, hE⟩ := cloned_strs hcl hrK
 have hKX := RX.made (ids := [b2, b1]) hF.same.size (fun x hx => hF.lt_ids (by grind)) hK1
 replace hF := hF.ext hE
 clear hE hcl hK1
 refine ⟨hF, ?_⟩
 refine f_free rfl (v := .pointer (some ⟨b1, 2, none⟩)) (fun w hC => x_fieldAddrO fa_32_2 rfl) ?_
 refine f_call rfl (clone23_c xs.length B e eX _ hXl (Lie.ext hXc hF.same) hrX.one_ (by omega)) (x_call1 en_74 rfl rfl) ?_
 rintro _ w ⟨A2, c2, sb2, rfl, hS2, hh2, hE⟩
 replace hKX := hKX.step (ids' := [b2, b1] ++ sb2.map (·.1)) hE (by simp) (fun x hx => by rcases List.mem_append.1 hx with hx | hx; exact .inl hx; obtain ⟨p, hp, rfl⟩ := List.mem_map.1 hx; exact .inr (hh2 p hp).2)
 replace hF := hF.extseg hE hh2 hS2.pw
 clear hE
 refine ⟨hF.sub (.cons_cons _ (.cons_cons _ (List.nil_sublist _))), ?_⟩
 refine f_storez rfl 1 (l := [.slice (A1) (ks.length) (c1)]) (cs' := #[.int .i64 (k), .string (bs (t)), .slice (A1) (ks.length) (c1), .slice (B) (xs.length) (e)]) hF Tryz.sizeOf22 rfl (v := .slice (A1) (ks.length) (c1)) rfl rfl (by simp [one]) rfl (Nat.le_of_ble_eq_true rfl) rfl ?_
 clear hF; intro w hF hE
 replace hKX := hKX.store hE (by grind)
 clear hE
 replace hF : FR w0 [] ([(b2, .cells #[.int .i64 (0), .string (bs ([])), .slice (none) (0) (0), .slice (none) (0) (0)] 32), (b1, .cells #[.int .i64 (k), .string (bs (t)), .slice (A1) (ks.length) (c1), .slice (B) (xs.length) (e)] 32)] ++ (sb2 ++ [])) w := hF
 refine f_free rfl (v := .pointer (some ⟨b1, 3, none⟩)) (fun w hC => x_fieldAddrO fa_32_3 rfl) ?_
 refine f_storez rfl 1 (l := [.slice (A2) (xs.length) (c2)]) (cs' := #[.int .i64 (k), .string (bs (t)), .slice (A1) (ks.length) (c1), .slice (A2) (xs.length) (c2)]) hF Tryz.sizeOf30 rfl (v := .slice (A2) (xs.length) (c2)) rfl rfl (by simp [one]) rfl (Nat.le_of_ble_eq_true rfl) rfl ?_
 clear hF; intro w hF hE
 replace hKX := hKX.store hE (by grind)
 clear hE
 replace hF : FR w0 [] ([(b2, .cells #[.int .i64 (0), .string (bs ([])), .slice (none) (0) (0), .slice (none) (0) (0)] 32), (b1, .cells #[.int .i64 (k), .string (bs (t)), .slice (A1) (ks.length) (c1), .slice (A2) (xs.length) (c2)] 32)] ++ (sb2 ++ [])) w := hF
 refine d_nil (e_seq (c_seq (c_seq (c_region (o_val (v := .pointer (some ⟨b1, 3, none⟩)) (x_fieldAddrO fa_32_3 rfl) (o_val (v := .slice (A2) (xs.length) (c2)) (x_load Tryz.isAgg30 rfl (hF.cell 1 rfl rfl)) (o_val (v := .int .i64 ((xs.length : Nat))) (x_len_slice Tryz.underlying30 rfl) (o_val (x_move rfl) (o_nil (e_seq (c_block ?_)))))))))))
 refine c_loop (fun μ σ w => ∃ (j : Nat), ∃ (dn : List Value), ∃ (rs : List Value), ∃ (sb : List (Nat × Obj)), μ = xs.length - j ∧ (j ≤ xs.length) ∧ (SlB 32 4 A2 xs.length c2 (dn ++ rs) sb) ∧ (dn.length = j * 4) ∧ (RepL S w0 (treesD (xs.drop j)) rs) ∧ (RX w0 ([b2, b1] ++ sb.map (·.1)) w (treesD (xs.take j)) dn) ∧ (RX w0 ([b2, b1] ++ sb.map (·.1)) w [strsD ks] [.slice A1 ks.length c1]) ∧ AllEq σ [(1, .pointer (some ⟨b1, 0, none⟩)), (2, .pointer (some ⟨b2, 0, none⟩)), (14, .slice (A2) (xs.length) (c2)), (15, .int .i64 ((xs.length : Nat))), (16, .int .i64 ((j : Int)))] ∧ FR w0 [] ([(b2, .cells #[.int .i64 (0), .string (bs ([])), .slice (none) (0) (0), .slice (none) (0) (0)] 32), (b1, .cells #[.int .i64 (k), .string (bs (t)), .slice (A1) (ks.length) (c1), .slice (A2) (xs.length) (c2)] 32)] ++ (sb ++ [])) w) _ ⟨0, [], eX, sb2, rfl, (Nat.zero_le _), (hS2), (rfl), (by simpa using hrX), (RX.nil), (hKX), ⟨rfl, rfl, rfl, rfl, rfl, trivial⟩, hF⟩ ?_
 clear hF; rintro μ σ w ⟨j, dn, rs, sb, rfl, hj, hS, hd, hrr, hDX, hKX, hs, hF⟩
 refine Cg.slots hs ?_
 clear hs; intro σ
 refine c_seq (c_region (o_val (v := .bool (decide (((j : Int) : Int) < ((xs.length : Nat) : Int)))) (x_lss rfl rfl) (o_nil (e_seq (c_seq ?_)))))
 refine c_splitd (d := 17) (p := ((j : Int) : Int) < ((xs.length : Nat) : Int)) rfl (fun hc0 => ?_) (fun hc0 => ?_)
 refine c_ift rfl (c_skip (e_seq (c_seq (c_block (c_seq (c_region (o_val (x_move rfl) ?_)))))))
 have hjx : j < xs.length := by omega
 rw [treesD_drop hjx] at hrr
 obtain ⟨c1_, c2_, rfl, hr1, hr2⟩ := RepL.cons_inv hrr
 have hl1 : c1_.length = 4 := hr1.length.trans (size_treeD _)
 have ho1 := hr1.one_
 obtain ⟨ad0, hA0, hk0⟩ := hS.elemMid (pre := [(b2, .cells #[.int .i64 (0), .string (bs ([])), .slice (none) (0) (0), .slice (none) (0) (0)] 32), (b1, .cells #[.int .i64 (k), .string (bs (t)), .slice (A1) (ks.length) (c1), .slice (A2) (xs.length) (c2)] 32)]) (post := []) (pr := dn) (mid := c1_) (po := c2_) hF (j := j) hd hl1 (hjx)
 refine o_val (v := .pointer (some (ad0.add (j * 4)))) (x_indexAddrA (i := (j : Int)) sl_30 rfl hA0 rfl (by omega) (by omega)) (o_val (v := .agg (List.toArray c1_)) (x_loadS (l := c1_) Tryz.isAgg32 Tryz.sizeOf32 rfl hl1 hk0) ?_)
 refine o_alloc (cs := #[.int .i64 (0), .string (bs ([])), .slice (none) (0) (0), .slice (none) (0) (0)]) hF Tryz.zeroValue32 rfl ?_
 clear hF; intro b3 w hb3 hF hE
 replace hKX := hKX.alloc hE hb3
 replace hDX := hDX.alloc hE hb3
 clear hE
 refine o_val (x_assign rfl) ?_
 refine o_store 0 (l := c1_) (cs' := (List.toArray c1_)) hF (by rw [hl1]; exact Tryz.sizeOf32) rfl (v := .agg (List.toArray c1_)) rfl rfl (ho1) rfl (by rw [hl1]; exact Nat.le_of_ble_eq_true rfl) (putA_all (by rw [hl1]; rfl)) ?_
 clear hF; intro w hF hE
 replace hKX := hKX.store hE (by grind)
 replace hDX := hDX.store hE (by grind)
 clear hE
 replace hF : FR w0 [] ([(b3, .cells (List.toArray c1_) 32), (b2, .cells #[.int .i64 (0), .string (bs ([])), .slice (none) (0) (0), .slice (none) (0) (0)] 32), (b1, .cells #[.int .i64 (k), .string (bs (t)), .slice (A1) (ks.length) (c1), .slice (A2) (xs.length) (c2)] 32)] ++ (sb ++ [])) w := hF
 refine o_nil (e_seq ?_)
 refine c_drawF [6] (.free 0 (.free 1 (.free 2 (.free 3 (.act 4 (.free 5 (.act 6 .nil))))))) (by kernel_rfl) hF (by kernel_rfl) (by kernel_rfl) ?_
 clear hF; intro w hF hE
 replace hKX := hKX.ext hE
 replace hDX := hDX.ext hE
 clear hE
 refine ⟨fun wq => FR w0 [] [(b3, .cells (List.toArray c1_) 32), (b2, .cells #[.int .i64 (0), .string (bs ([])), .slice (none) (0) (0), .slice (none) (0) (0)] 32), (b1, .cells #[.int .i64 (k), .string (bs (t)), .slice (A1) (ks.length) (c1), .slice (A2) (xs.length) (c2)] 32)] wq, hF.sub (.cons_cons _ (.cons_cons _ (.cons_cons _ (List.nil_sublist _)))), ?_⟩
 refine f_free rfl (v := .pointer (some ⟨b1, 3, none⟩)) (fun w hC => x_fieldAddrO fa_32_3 rfl) (f_free rfl (v := .slice (A2) (xs.length) (c2)) (fun w hC => x_load Tryz.isAgg30 rfl (hC.cell 2 rfl rfl)) (f_free rfl (v := .int .i64 ((j : Int))) (fun w hC => x_move rfl) (f_free rfl (v := .agg (List.toArray c1_)) (fun w hC => x_loadS (l := c1_) Tryz.isAgg32 Tryz.sizeOf32 rfl hl1 (hC.cellsAll 0 rfl)) ?_)))
 refine f_call rfl (ih xs[j] (List.getElem_mem hjx) S _ c1_ (hF.rep hr1) (by have := sizeTs_mem (List.getElem_mem hjx); omega) (by have := keysTs_mem (List.getElem_mem hjx); omega)) (x_call1 en_54 rfl rfl) ?_
 rintro _ w ⟨ct, rfl, hRt, hE⟩
 have hlt : ct.length = 4 := hRt.length.trans (size_treeD _)
 have hot := hRt.one_
 have hYX := RX.made (ids := b3 :: ([b2, b1] ++ sb.map (·.1))) hF.same.size (fun x hx => hF.lt_ids (by grind)) hRt
 replace hKX := hKX.ext hE
 replace hDX := (hDX.ext hE).append hYX
 replace hF := hF.ext hE
 clear hE hYX
 refine ⟨hF.sub (.cons_cons _ (.cons_cons _ (.cons_cons _ (List.nil_sublist _)))), ?_⟩
 obtain ⟨ad1, hA1, hk1⟩ := hS.elemMid (pre := [(b3, .cells (List.toArray c1_) 32), (b2, .cells #[.int .i64 (0), .string (bs ([])), .slice (none) (0) (0), .slice (none) (0) (0)] 32), (b1, .cells #[.int .i64 (k), .string (bs (t)), .slice (A1) (ks.length) (c1), .slice (A2) (xs.length) (c2)] 32)]) (post := []) (pr := dn) (mid := c1_) (po := c2_) hF (j := j) hd hl1 (hjx)
 refine f_free rfl (v := .pointer (some (ad1.add (j * 4)))) (fun w hC => x_indexAddrA (i := (j : Int)) sl_30 rfl hA1 rfl (by omega) (by omega)) ?_
 refine f_storeSl [(b3, .cells (List.toArray c1_) 32), (b2, .cells #[.int .i64 (0), .string (bs ([])), .slice (none) (0) (0), .slice (none) (0) (0)] 32), (b1, .cells #[.int .i64 (k), .string (bs (t)), .slice (A1) (ks.length) (c1), .slice (A2) (xs.length) (c2)] 32)] [] rfl hF (pr := dn) (mid := c1_) (po := c2_) (new := ct) (j := j) hS hd hl1 hA1 (hjx) Tryz.sizeOf32 rfl (v := .agg (List.toArray ct)) rfl rfl hlt hot ?_
 clear hF; intro i_2 w hS2_i hF hE hids
 replace hKX := hKX.store hE (by grind)
 replace hDX := hDX.store hE (by grind)
 clear hE
 refine d_nil (e_block (e_seq (c_region (o_val (v := .int .i64 (((j : Int) : Int) + 1)) (x_add rfl rfl (wrap_id (by omega) (by omega))) (o_val (x_move rfl) (o_nil ?_))))))
 refine e_inv ⟨_, ?_, j + 1, dn ++ ct, c2_, i_2, rfl, (hjx), (by simpa using hS2_i), (by rw [List.length_append, hd, hlt]; omega), (hr2), (by rw [treesD_take hjx, hids]; exact hDX.sub (fun x hx => List.mem_cons_of_mem _ hx)), (by rw [hids]; exact hKX.sub (fun x hx => List.mem_cons_of_mem _ hx)), ⟨rfl, rfl, rfl, rfl, rfl, trivial⟩, hF.drop 1⟩
 omega
 refine c_iff rfl ?_
 refine c_exit (e_exit rfl ?_)
 refine e_seq (c_seq (c_region (o_val (v := .agg #[.int .i64 (k), .string (bs (t)), .slice (A1) (ks.length) (c1), .slice (A2) (xs.length) (c2)]) (x_loadS (l := [.int .i64 (k), .string (bs (t)), .slice (A1) (ks.length) (c1), .slice (A2) (xs.length) (c2)]) Tryz.isAgg32 Tryz.sizeOf32 rfl rfl (hF.cellsAll 1 rfl)) ?_)))
 refine o_store 0 (l := [.int .i64 (k), .string (bs (t)), .slice (A1) (ks.length) (c1), .slice (A2) (xs.length) (c2)]) (cs' := #[.int .i64 (k), .string (bs (t)), .slice (A1) (ks.length) (c1), .slice (A2) (xs.length) (c2)]) hF Tryz.sizeOf32 rfl (v := .agg #[.int .i64 (k), .string (bs (t)), .slice (A1) (ks.length) (c1), .slice (A2) (xs.length) (c2)]) rfl rfl (by simp [one]) rfl (Nat.le_of_ble_eq_true rfl) rfl ?_
 clear hF; intro w hF hE
 replace hKX := hKX.store hE (by grind)
 replace hDX := hDX.store hE (by grind)
 clear hE
 replace hF : FR w0 [] ([(b2, .cells #[.int .i64 (k), .string (bs (t)), .slice (A1) (ks.length) (c1), .slice (A2) (xs.length) (c2)] 32), (b1, .cells #[.int .i64 (k), .string (bs (t)), .slice (A1) (ks.length) (c1), .slice (A2) (xs.length) (c2)] 32)] ++ (sb ++ [])) w := hF
 refine o_nil (e_seq ?_)
 refine c_ret (e_ret (post_ret (res_c rfl (l := [.int .i64 (k), .string (bs (t)), .slice (A1) (ks.length) (c1), .slice (A2) (xs.length) (c2)]) rfl Tryz.isAgg32 Tryz.sizeOf32 rfl (hF.cellsAll 0 rfl)) ?_))
 have ej : j = xs.length := by omega
 subst ej
 rw [List.take_length] at hDX
 have e0 : rs = [] := by rw [List.drop_length] at hrr; exact RepL.nil_inv hrr
 subst e0
 rw [List.append_nil] at hS
 refine ⟨_, rfl, ?_, hF.same⟩
 · exact Rep.tree_mk hk ht hKX.done (hS.rep (pre := [_, _]) (post := []) hF hDX (by simp))
theorem clone_c (x : Tree) : CloneC x := Tree.ind clone_step x
end Go.Scarf
namespace Go.Scarf
open Go.RowKit Go.Proofs
mutual
def sortT : Tree → Tree
  | .node k t ks xs => if k = 6 then .node k t (sortS ks) ((sortS ks).map fun key => (lookT ks (sortTs xs) key).getD (.node 0 [] [] [])) else .node k t [] (sortTs xs)
def sortTs : List Tree → List Tree
  | [] => []
  | x :: xs => sortT x :: sortTs xs
end
theorem sortTs_eq : ∀ xs : List Tree, sortTs xs = xs.map sortT
  | [] => rfl
  | x :: xs => by rw [sortTs, sortTs_eq xs, List.map_cons]
theorem lookT_sort {key : Str} {y : Tree} : ∀ {ks : List Str} {xs : List Tree}, lookT ks xs key = some y → lookT ks (sortTs xs) key = some (sortT y)
  | [], xs, h => by cases xs <;> cases h
  | k :: ks, [], h => by cases h
  | k :: ks, x :: xs, h => by
    rw [sortTs, lookT]
    rw [lookT] at h
    by_cases he : k = key
    · rw [if_pos he] at h ⊢; injection h with h; rw [h]
    · rw [if_neg he] at h ⊢; exact lookT_sort h
theorem lookM_some {S : Nat → Prop} {w : World} {key : Str} {ks : List Str} {xs : List Tree} {l : MapL} (hk : l.map (·.1) = ks) (hm : MapRep S w xs l) (hin : key ∈ ks) :
    ∃ (cs : List Value) (y : Tree), lookM l key = some (.agg cs.toArray) ∧ lookT ks xs key = some y ∧ y ∈ xs ∧ Rep S w (treeD y) cs := by
  rcases lookM_tree key hk hm with ⟨h, -⟩ | h
  · exfalso
    rw [← hk] at hin
    obtain ⟨x, hx, hxe⟩ := List.mem_map.1 hin
    unfold lookM at h
    rw [Option.map_eq_none_iff, List.find?_eq_none] at h
    exact h x hx (by simpa using hxe)
  · exact h
theorem MapRep.back {S : Nat → Prop} {w0 w : World} {xs : List Tree} {l : MapL} (h : MapRep (Old S w0) w xs l) (hs : Same [] w0 w) : MapRep (Old S w0) w0 xs l := fun i hi => by
  obtain ⟨cs, h1, h2, h3⟩ := h i hi
  exact ⟨cs, h1, h2, h3.back hs⟩
def KeysAt (w1 : World) (bk m : Nat) (l : MapL) : Prop := ∃ W : World, w1 = W.alloc (.cells #[.map (some m)] 79) ∧ bk = W.heap.size ∧ W.heap[m]? = some (mapO l)
theorem keys_c (m : Nat) (l : MapL) (w : World) (hm : w.heap[m]? = some (mapO l)) : Calls Tryz.prog 110 #[.map (some m)] w (Ret fun v w' => ∃ bk, v = .func (.func 140) #[] #[.pointer (some ⟨bk, 0, none⟩)] ∧ KeysAt w' bk m l ∧ Same [] w w') :=
  (callsIn_wide.1 (Tryz.maps_Keys_110 (some m) w)).mono fun _ _ ⟨he, hw⟩ => ⟨_, he, w.heap.size, rfl, ⟨w, hw, rfl, hm⟩, by rw [hw]; exact Same.alloc w _⟩
theorem sortedKeys_c (bk m : Nat) (l : MapL) (ks : List Str) (w : World) (h : KeysAt w bk m l) (hk : l.map (·.1) = ks) (hn : ks.Nodup) (hb : ks.length ≤ 1000000000) (hs : ∀ s ∈ ks, s.length ≤ 140737488355328) :
    Calls Tryz.prog 109 #[.func (.func 140) #[] #[.pointer (some ⟨bk, 0, none⟩)]] w (Ret fun v w' => ∃ A c, v = .slice A ks.length c ∧ Rep (Btw w w') w' (strsD (sortS ks)) [.slice A ks.length c] ∧ Same [] w w') := by
  obtain ⟨W, rfl, rfl, hm⟩ := h
  have hl : l.length = ks.length := by rw [← hk, List.length_map]
  obtain ⟨D0, hown, hperm, hsz⟩ := ownsMap_of (P := Tryz.prog) Tryz.underlying9 hm (by rw [hk]; exact hn) (fun x hx => by have := hs x.1 (by rw [← hk]; exact List.mem_map_of_mem hx); simp only [maxLen]; omega) (by simp only [maxLen]; omega)
  refine (callsIn_wide.1 (Tryz.slices_Sorted_keys_109_110 m l.length D0 _ W hown (by rw [hsz]; simp only [maxLen]; omega) (by rw [hsz]; omega))).mono ?_
  rintro e w' ⟨v, ss, rfl, hp, hrow, -, hbel⟩
  have hpk : ss.Perm ks := by rw [← hk]; exact hp.trans hperm
  have e1 : (ss.mergeSort fun x y => decide (x ≤ y)) = sortS ks := sortS_of_perm hpk
  rw [e1] at hrow
  have e2 : ss.length = (sortS ks).length := by rw [sortS_len]; exact hpk.length_eq
  rw [e2] at hrow
  obtain ⟨A, c, rfl, hr⟩ := row_strs (S := Btw (W.alloc (.cells #[.map (some m)] 79)) w') 9 hrow (fun g h1 h2 h3 => ⟨h1, h2, h3⟩) (fun s hs' => by have := hs s (sortS_mem.1 hs'); omega)
  rw [sortS_len] at hr
  exact ⟨_, rfl, A, c, by rw [sortS_len], hr, .of_below hbel⟩
def SortedC (x : Tree) : Prop := ∀ S w0 cs, Rep S w0 (treeD x) cs → okT x → allT nodeB x = true → sizeT x ≤ 1000000000 → NewC 84 #[.agg cs.toArray] (treeD (sortT x)) w0
theorem sortTs_take {xs : List Tree} {j : Nat} (h : j < xs.length) : treesD (sortTs (xs.take (j + 1))) = treesD (sortTs (xs.take j)) ++ [treeD (sortT xs[j])] := by
  rw [List.take_succ_eq_append_getElem h, treesD_eq, treesD_eq, sortTs_eq, sortTs_eq, List.map_append, List.map_append]; rfl
def outs (ks : List Str) (xs : List Tree) : List Tree := (sortS ks).map fun key => (lookT ks (sortTs xs) key).getD (.node 0 [] [] [])
theorem outs_len (ks : List Str) (xs : List Tree) : (outs ks xs).length = ks.length := by rw [outs, List.length_map, sortS_len]
theorem outs_take {ks : List Str} {xs : List Tree} {j : Nat} {y : Tree} (h : j < (sortS ks).length) (hy : lookT ks xs (sortS ks)[j] = some y) : treesD ((outs ks xs).take (j + 1)) = treesD ((outs ks xs).take j) ++ [treeD (sortT y)] := by
  have h' : j < (outs ks xs).length := by rw [outs_len, ← sortS_len]; exact h
  rw [List.take_succ_eq_append_getElem h', treesD_eq, treesD_eq, List.map_append]
  simp only [outs, List.getElem_map, lookT_sort hy, Option.getD_some]
  rfl
set_option maxHeartbeats 4000000 in
set_option maxRecDepth 10000 in
theorem sorted_step (k : Int) (t : Str) (ks : List Str) (xs : List Tree) (ih : ∀ x, x ∈ xs → SortedC x) : SortedC (.node k t ks xs) := by
 intro S w0 cs hR hok hnx hsz
 replace hR := hR.old
 rw [okT] at hok
 rw [sizeT] at hsz
 have hxn := sizeTs_len xs
 replace hnx := allT_node hnx
 obtain ⟨A, c, B, e, rfl, hk, ht, hK, hX⟩ := hR.tree_inv
 have hXl := hX.slice_len
 have hKn : k = 6 → ks.length = xs.length := fun e => (node6 (e ▸ hnx.1)).2
 refine calls_start Tryz.func84 rfl Tryz.ntmps84 (Nat.le_of_ble_eq_true rfl) (args_1 _) ?_
 have hF := FR.start w0 []
 refine c_seq (c_region ?_)
 refine o_box (v := .agg #[.int .i64 (k), .string (bs (t)), .slice (A) (ks.length) (c), .slice (B) (xs.length) (e)]) (cs := #[.int .i64 (k), .string (bs (t)), .slice (A) (ks.length) (c), .slice (B) (xs.length) (e)]) hF rfl rfl ?_
 clear hF; rintro b1 w hb1 hF -
 refine o_alloc (cs := #[.int .i64 (0), .string (bs ([])), .slice (none) (0) (0), .slice (none) (0) (0)]) hF Tryz.zeroValue32 rfl ?_
 clear hF; rintro b2 w hb2 hF -
 refine o_nil (e_seq (c_seq (c_region (o_val (v := .pointer (some ⟨b1, 0, none⟩)) (x_fieldAddrO fa_32_0 rfl) (o_val (v := .int .i64 (k)) (x_load Tryz.isAgg3 rfl (hF.cell 1 rfl rfl)) (o_val (v := .pointer (some ⟨b1, 1, none⟩)) (x_fieldAddrO fa_32_1 rfl) (o_val (v := .string (bs (t))) (x_load Tryz.isAgg9 rfl (hF.cell 1 rfl rfl)) ?_)))))))
 refine o_val (w' := w) (v := .agg #[.int .i64 (k), .string (bs (t)), .slice (none) (0) (0), .slice (none) (0) (0)]) (by kernel_rfl) ?_
 refine o_lay (l := [.int .i64 (k), .string (bs (t)), .slice (none) (0) (0), .slice (none) (0) (0)]) hF Tryz.zeroValue32 Tryz.sizeOf32 rfl (v := .agg #[.int .i64 (k), .string (bs (t)), .slice (none) (0) (0), .slice (none) (0) (0)]) rfl rfl (by simp [one]) rfl ?_
 clear hF; rintro b3 w hb3 hF -
 refine o_nil (e_seq (c_seq (c_seq (c_region (o_val (v := .pointer (some ⟨b1, 0, none⟩)) (x_fieldAddrO fa_32_0 rfl) (o_val (v := .int .i64 (k)) (x_load Tryz.isAgg3 rfl (hF.cell 2 rfl rfl)) (o_val (v := .bool (decide ((k : Int) ≠ (6 : Int)))) (x_neq rfl rfl) (o_nil (e_seq ?_)))))))))
 refine c_splitd (d := 16) (p := (k : Int) ≠ (6 : Int)) rfl (fun hc0 => ?_) (fun hc0 => ?_)
 refine c_ift rfl (c_seq (c_seq (c_region (o_val (v := .pointer (some ⟨b1, 3, none⟩)) (x_fieldAddrO fa_32_3 rfl) (o_val (v := .slice (B) (xs.length) (e)) (x_load Tryz.isAgg30 rfl (hF.cell 2 rfl rfl)) (o_val (v := .int .i64 ((xs.length : Nat))) (x_len_slice Tryz.underlying30 rfl) (o_val (x_move rfl) (o_nil (e_seq (c_block ?_))))))))))
 refine c_loop (fun μ σ w => ∃ (j : Nat), ∃ (A1 : Option Addr), ∃ (c1 : Nat), ∃ (sb : List (Nat × Obj)), ∃ (cs1 : List Value), μ = xs.length - j ∧ (j ≤ xs.length) ∧ (SlB 32 4 A1 j c1 cs1 sb) ∧ (RX w0 ([b3, b2, b1] ++ sb.map (·.1)) w (treesD (sortTs (xs.take j))) cs1) ∧ AllEq σ [(2, .pointer (some ⟨b2, 0, none⟩)), (3, .pointer (some ⟨b3, 0, none⟩)), (18, .slice (B) (xs.length) (e)), (19, .int .i64 ((xs.length : Nat))), (20, .int .i64 ((j : Int)))] ∧ FR w0 [] ([(b3, .cells #[.int .i64 (k), .string (bs (t)), .slice (none) (0) (0), .slice (A1) (j) (c1)] 32), (b2, .cells #[.int .i64 (0), .string (bs ([])), .slice (none) (0) (0), .slice (none) (0) (0)] 32), (b1, .cells #[.int .i64 (k), .string (bs (t)), .slice (A) (ks.length) (c), .slice (B) (xs.length) (e)] 32)] ++ (sb ++ [])) w) _ ⟨0, none, 0, [], [], rfl, (Nat.zero_le _), (SlB.nil _ _), (RX.nil), ⟨rfl, rfl, rfl, rfl, rfl, trivial⟩, hF⟩ ?_
 clear hF; rintro μ σ w ⟨j, A1, c1, sb, cs1, rfl, hj, hS, hDX, hs, hF⟩
 refine Cg.slots hs ?_
 clear hs; intro σ
 refine c_seq (c_region (o_val (v := .bool (decide (((j : Int) : Int) < ((xs.length : Nat) : Int)))) (x_lss rfl rfl) (o_nil (e_seq (c_seq ?_)))))
 refine c_splitd (d := 21) (p := ((j : Int) : Int) < ((xs.length : Nat) : Int)) rfl (fun hc1 => ?_) (fun hc1 => ?_)
 refine c_ift rfl (c_skip (e_seq (c_seq (c_block (c_seq (c_region ?_))))))
 obtain ⟨ad0, cs0, hA0, hl0, hk0, hx0⟩ := hX.tree_elem (i := j) (by omega)
 have ho0 := hx0.one_
 refine o_val (v := .pointer (some (ad0.add (j * 4)))) (x_indexAddrA (i := (j : Int)) sl_30 rfl hA0 rfl (by omega) (by omega)) (o_val (v := .agg (List.toArray cs0)) (x_loadS (l := cs0) Tryz.isAgg32 Tryz.sizeOf32 rfl hl0 (hF.cells0 hk0)) ?_)
 refine o_lay (l := cs0) hF Tryz.zeroValue32 (by rw [hl0]; exact Tryz.sizeOf32) (by rw [hl0]; rfl) (v := .agg (List.toArray cs0)) rfl rfl (ho0) rfl ?_
 clear hF; intro b4 w hb4 hF hE
 replace hDX := hDX.alloc hE hb4
 clear hE
 refine o_nil (e_seq ?_)
 refine c_drawF [7] (.free 0 (.free 1 (.free 2 (.act 3 (.act 4 (.act 5 (.free 6 (.act 7 .nil)))))))) (by kernel_rfl) hF (by kernel_rfl) (by kernel_rfl) ?_
 clear hF; intro w hF hE
 replace hDX := hDX.ext hE
 clear hE
 refine ⟨fun wq => FR w0 [] [(b4, .cells (List.toArray cs0) 32), (b3, .cells #[.int .i64 (k), .string (bs (t)), .slice (none) (0) (0), .slice (A1) (j) (c1)] 32), (b2, .cells #[.int .i64 (0), .string (bs ([])), .slice (none) (0) (0), .slice (none) (0) (0)] 32), (b1, .cells #[.int .i64 (k), .string (bs (t)), .slice (A) (ks.length) (c), .slice (B) (xs.length) (e)] 32)] wq, hF.sub (.cons_cons _ (.cons_cons _ (.cons_cons _ (.cons_cons _ (List.nil_sublist _))))), ?_⟩
 refine f_free rfl (v := .pointer (some ⟨b3, 3, none⟩)) (fun w hC => x_fieldAddrO fa_32_3 rfl) (f_free rfl (v := .slice (A1) (j) (c1)) (fun w hC => x_load Tryz.isAgg30 rfl (hC.cell 1 rfl rfl)) (f_free rfl (v := .agg (List.toArray cs0)) (fun w hC => x_loadS (l := cs0) Tryz.isAgg32 Tryz.sizeOf32 rfl hl0 (hC.cellsAll 0 rfl)) ?_))
 refine f_call rfl (ih xs[j] (List.getElem_mem (by omega)) _ _ cs0 (hF.rep hx0) (okTs_mem hok.2.2 _ (List.getElem_mem (by omega))) (hnx.2 _ (List.getElem_mem (by omega))) (by have := sizeTs_mem (List.getElem_mem (l := xs) (n := j) (by omega)); omega)) (x_call1 en_84 rfl rfl) ?_
 rintro _ w ⟨ct, rfl, hRt, hE⟩
 have hlt : ct.length = 4 := hRt.length.trans (size_treeD _)
 have hot := hRt.one_
 have hYX := RX.made (ids := [b4, b3, b2, b1] ++ sb.map (·.1)) hF.same.size (fun x hx => hF.lt_ids (by grind)) hRt
 replace hDX := (hDX.ext hE).append hYX
 replace hF := hF.ext hE
 clear hE hYX
 refine ⟨hF.sub (.cons_cons _ (.cons_cons _ (.cons_cons _ (.cons_cons _ (List.nil_sublist _))))), ?_⟩
 refine f_new rfl (v := fun b => .slice (some ⟨b, 0, none⟩) 1 1) hF (x_buildSlice1 (l := ct) Tryz.underlying30 Tryz.sizeOf32 Tryz.zeroValue32 (by decide) (by decide) rfl hlt) ?_
 clear hF; intro b5 w hb5 hF hE
 replace hDX := hDX.alloc hE hb5
 clear hE
 refine ⟨hF.sub (.cons _ (.cons_cons _ (.cons_cons _ (.cons_cons _ (.cons_cons _ (List.nil_sublist _)))))), ?_⟩
 refine f_append [(b5, .cells (List.toArray ct) 32), (b4, .cells (List.toArray cs0) 32), (b3, .cells #[.int .i64 (k), .string (bs (t)), .slice (none) (0) (0), .slice (A1) (j) (c1)] 32), (b2, .cells #[.int .i64 (0), .string (bs ([])), .slice (none) (0) (0), .slice (none) (0) (0)] 32), (b1, .cells #[.int .i64 (k), .string (bs (t)), .slice (A) (ks.length) (c), .slice (B) (xs.length) (e)] 32)] [] (news := ct) (len' := j + 1) (ys := cs1 ++ ct) rfl el_30 hF hS rfl rfl (by rw [hlt]) (fun _ => ⟨_, rfl, cells_opt (hF.cellsAll 0 rfl)⟩) (ones_eq hot) (by simp only [maxLen]; omega) (rfl) (rfl) (by omega) ?_
 clear hF; intro A1 c1 i_1 w hS1_i hF hE hnew
 replace hDX := hDX.app (l := [b5, b4, b3, b2, b1]) hE hnew
 clear hE hnew
 refine ⟨hF.sub (.cons _ (.cons_cons _ (.cons_cons _ (.cons_cons _ (.cons_cons _ (List.nil_sublist _)))))), ?_⟩
 refine f_free rfl (v := .pointer (some ⟨b3, 3, none⟩)) (fun w hC => x_fieldAddrO fa_32_3 rfl) ?_
 refine f_storez rfl 2 (l := [.slice (A1) (j + 1) (c1)]) (cs' := #[.int .i64 (k), .string (bs (t)), .slice (none) (0) (0), .slice (A1) (j + 1) (c1)]) hF Tryz.sizeOf30 rfl (v := .slice (A1) (j + 1) (c1)) rfl rfl (by simp [one]) rfl (Nat.le_of_ble_eq_true rfl) rfl ?_
 clear hF; intro w hF hE
 replace hDX := hDX.store hE (by grind)
 clear hE
 replace hF : FR w0 [] ([(b5, .cells (List.toArray ct) 32), (b4, .cells (List.toArray cs0) 32), (b3, .cells #[.int .i64 (k), .string (bs (t)), .slice (none) (0) (0), .slice (A1) (j + 1) (c1)] 32), (b2, .cells #[.int .i64 (0), .string (bs ([])), .slice (none) (0) (0), .slice (none) (0) (0)] 32), (b1, .cells #[.int .i64 (k), .string (bs (t)), .slice (A) (ks.length) (c), .slice (B) (xs.length) (e)] 32)] ++ (i_1 ++ [])) w := hF
 refine d_nil (e_block (e_seq (c_region (o_val (v := .int .i64 (((j : Int) : Int) + 1)) (x_add rfl rfl (wrap_id (by omega) (by omega))) (o_val (x_move rfl) (o_nil ?_))))))
 refine e_inv ⟨_, ?_, j + 1, A1, c1, i_1, cs1 ++ ct, rfl, (by omega), (by assumption), (by rw [sortTs_take (by omega)]; exact hDX.sub (by grind)), ⟨rfl, rfl, rfl, rfl, rfl, trivial⟩, hF.drop 2⟩
 omega
 refine c_iff rfl ?_
 refine c_exit (e_exit rfl ?_)
 refine e_seq (c_seq (c_region (o_val (v := .agg #[.int .i64 (k), .string (bs (t)), .slice (none) (0) (0), .slice (A1) (j) (c1)]) (x_loadS (l := [.int .i64 (k), .string (bs (t)), .slice (none) (0) (0), .slice (A1) (j) (c1)]) Tryz.isAgg32 Tryz.sizeOf32 rfl rfl (hF.cellsAll 0 rfl)) ?_)))
 refine o_store 1 (l := [.int .i64 (k), .string (bs (t)), .slice (none) (0) (0), .slice (A1) (j) (c1)]) (cs' := #[.int .i64 (k), .string (bs (t)), .slice (none) (0) (0), .slice (A1) (j) (c1)]) hF Tryz.sizeOf32 rfl (v := .agg #[.int .i64 (k), .string (bs (t)), .slice (none) (0) (0), .slice (A1) (j) (c1)]) rfl rfl (by simp [one]) rfl (Nat.le_of_ble_eq_true rfl) rfl ?_
 clear hF; intro w hF hE
 replace hDX := hDX.store hE (by grind)
 clear hE
 replace hF : FR w0 [] ([(b3, .cells #[.int .i64 (k), .string (bs (t)), .slice (none) (0) (0), .slice (A1) (j) (c1)] 32), (b2, .cells #[.int .i64 (k), .string (bs (t)), .slice (none) (0) (0), .slice (A1) (j) (c1)] 32), (b1, .cells #[.int .i64 (k), .string (bs (t)), .slice (A) (ks.length) (c), .slice (B) (xs.length) (e)] 32)] ++ (sb ++ [])) w := hF
 refine o_nil (e_seq ?_)
 refine c_ret (e_ret (post_ret (res_c rfl (l := [.int .i64 (k), .string (bs (t)), .slice (none) (0) (0), .slice (A1) (j) (c1)]) rfl Tryz.isAgg32 Tryz.sizeOf32 rfl (hF.cellsAll 1 rfl)) ?_))
 have ej : j = xs.length := by omega
 subst ej
 rw [List.take_length] at hDX
 refine ⟨_, rfl, ?_, hF.same⟩
 rw [sortT, if_neg hc0]
 exact Rep.tree_mk hk ht (Rep.nil_slice 0 (by omega) none) (hS.rep (pre := [_, _, _]) (post := []) hF hDX (by rw [treesD_length, sortTs_eq, List.length_map]))
 refine c_iff rfl (c_skip (e_seq (c_seq (c_region (o_val (v := .agg #[.int .i64 (k), .string (bs (t)), .slice (A) (ks.length) (c), .slice (B) (xs.length) (e)]) (x_loadS (l := [.int .i64 (k), .string (bs (t)), .slice (A) (ks.length) (c), .slice (B) (xs.length) (e)]) Tryz.isAgg32 Tryz.sizeOf32 rfl rfl (hF.cellsAll 2 rfl)) ?_)))))
 have k6 : k = 6 := by simpa using hc0
 refine o_call (members_c k t ks xs (node6 (k6 ▸ hnx.1)).1 (node6 (k6 ▸ hnx.1)).2 _ _ _ (hF.rep hR)) (x_call1 en_66 rfl rfl) ?_
 rintro _ w ⟨m1, l1, rfl, hge, hm1, hk1, hr1, hE⟩
 replace hF := hF.cons_ext hE hm1 hge
 replace hr1 := hr1.back hF.same
 clear hE hm1 hge
 refine o_val (x_assign rfl) (o_nil (e_seq (c_seq (c_region (o_val (x_move rfl) ?_)))))
 refine o_call (keys_c m1 l1 _ (hF.heap (i := 0) rfl)) (x_call1 en_110 rfl rfl) ?_
 rintro _ w ⟨bk, rfl, hKA, hE⟩
 replace hF := hF.ext hE
 clear hE
 refine o_call (sortedKeys_c bk m1 l1 ks _ hKA hk1 (node6 (k6 ▸ hnx.1)).1 (by omega) hok.2.1) (x_call1 en_109 rfl rfl) ?_
 rintro _ w ⟨A2, c2, rfl, hK2, hE⟩
 have hKX := RX.made (ids := [m1, b3, b2, b1]) hF.same.size (fun x hx => hF.lt_ids (by grind)) hK2
 replace hF := hF.ext hE
 clear hE hK2
 refine o_val (v := .pointer (some ⟨b3, 2, none⟩)) (x_fieldAddrO fa_32_2 rfl) ?_
 refine o_store 1 (l := [.slice (A2) (ks.length) (c2)]) (cs' := #[.int .i64 (k), .string (bs (t)), .slice (A2) (ks.length) (c2), .slice (none) (0) (0)]) hF Tryz.sizeOf22 rfl (v := .slice (A2) (ks.length) (c2)) rfl rfl (by simp [one]) rfl (Nat.le_of_ble_eq_true rfl) rfl ?_
 clear hF; intro w hF hE
 replace hKX := hKX.store hE (by grind)
 clear hE
 replace hF : FR w0 [] [(m1, mapO (l1)), (b3, .cells #[.int .i64 (k), .string (bs (t)), .slice (A2) (ks.length) (c2), .slice (none) (0) (0)] 32), (b2, .cells #[.int .i64 (0), .string (bs ([])), .slice (none) (0) (0), .slice (none) (0) (0)] 32), (b1, .cells #[.int .i64 (k), .string (bs (t)), .slice (A) (ks.length) (c), .slice (B) (xs.length) (e)] 32)] w := hF
 refine o_nil (e_seq (c_seq (c_seq (c_region (o_val (v := .pointer (some ⟨b3, 2, none⟩)) (x_fieldAddrO fa_32_2 rfl) (o_val (v := .slice (A2) (ks.length) (c2)) (x_load Tryz.isAgg22 rfl (hF.cell 1 rfl rfl)) (o_val (v := .int .i64 ((ks.length : Nat))) (x_len_slice Tryz.underlying22 rfl) (o_val (x_move rfl) (o_nil (e_seq (c_block ?_)))))))))))
 refine c_loop (fun μ σ w => ∃ (j : Nat), ∃ (A1 : Option Addr), ∃ (c1 : Nat), ∃ (sb : List (Nat × Obj)), ∃ (cs1 : List Value), μ = ks.length - j ∧ (j ≤ ks.length) ∧ (SlB 32 4 A1 j c1 cs1 sb) ∧ (RX w0 ([m1, b3, b2, b1] ++ sb.map (·.1)) w (treesD ((outs ks xs).take j)) cs1) ∧ (RX w0 ([m1, b3, b2, b1] ++ sb.map (·.1)) w [strsD (sortS ks)] [.slice A2 ks.length c2]) ∧ AllEq σ [(2, .pointer (some ⟨b2, 0, none⟩)), (3, .pointer (some ⟨b3, 0, none⟩)), (6, .map (some m1)), (40, .slice (A2) (ks.length) (c2)), (41, .int .i64 ((ks.length : Nat))), (42, .int .i64 ((j : Int)))] ∧ FR w0 [] ([(m1, mapO (l1)), (b3, .cells #[.int .i64 (k), .string (bs (t)), .slice (A2) (ks.length) (c2), .slice (A1) (j) (c1)] 32), (b2, .cells #[.int .i64 (0), .string (bs ([])), .slice (none) (0) (0), .slice (none) (0) (0)] 32), (b1, .cells #[.int .i64 (k), .string (bs (t)), .slice (A) (ks.length) (c), .slice (B) (xs.length) (e)] 32)] ++ (sb ++ [])) w) _ ⟨0, none, 0, [], [], rfl, (Nat.zero_le _), (SlB.nil _ _), (RX.nil), (hKX), ⟨rfl, rfl, rfl, rfl, rfl, rfl, trivial⟩, hF⟩ ?_
 clear hF; rintro μ σ w ⟨j, A1, c1, sb, cs1, rfl, hj, hS, hDX, hKX, hs, hF⟩
 refine Cg.slots hs ?_
 clear hs; intro σ
 refine c_seq (c_region (o_val (v := .bool (decide (((j : Int) : Int) < ((ks.length : Nat) : Int)))) (x_lss rfl rfl) (o_nil (e_seq (c_seq ?_)))))
 refine c_splitd (d := 43) (p := ((j : Int) : Int) < ((ks.length : Nat) : Int)) rfl (fun hc2 => ?_) (fun hc2 => ?_)
 refine c_ift rfl (c_skip (e_seq (c_seq (c_block (c_seq (c_region ?_))))))
 obtain ⟨ad2, hA2, hk2, hx2⟩ := hKX.rep.str_elem (i := j) (by rw [sortS_len]; omega)
 refine o_val (v := .pointer (some (ad2.add (j * 1)))) (x_indexAddrA (i := (j : Int)) sl_22 rfl hA2 rfl (by omega) (by omega)) ?_
 refine o_val (v := .string (bs ((sortS ks)[j]'(by rw [sortS_len]; omega)))) (x_load Tryz.isAgg9 rfl hk2) ?_
 refine o_val (x_assign rfl) ?_
 refine o_nil (e_seq ?_)
 refine c_drawF [9] (.free 0 (.free 1 (.free 2 (.free 3 (.free 4 (.act 5 (.act 6 (.act 7 (.free 8 (.act 9 .nil)))))))))) (by kernel_rfl) hF (by kernel_rfl) (by kernel_rfl) ?_
 clear hF; intro w hF hE
 replace hDX := hDX.ext hE
 replace hKX := hKX.ext hE
 clear hE
 refine ⟨fun wq => FR w0 [] [(m1, mapO (l1)), (b3, .cells #[.int .i64 (k), .string (bs (t)), .slice (A2) (ks.length) (c2), .slice (A1) (j) (c1)] 32), (b2, .cells #[.int .i64 (0), .string (bs ([])), .slice (none) (0) (0), .slice (none) (0) (0)] 32), (b1, .cells #[.int .i64 (k), .string (bs (t)), .slice (A) (ks.length) (c), .slice (B) (xs.length) (e)] 32)] wq, hF.sub (.cons_cons _ (.cons_cons _ (.cons_cons _ (.cons_cons _ (List.nil_sublist _))))), ?_⟩
 refine f_free rfl (v := .pointer (some ⟨b3, 3, none⟩)) (fun w hC => x_fieldAddrO fa_32_3 rfl) (f_free rfl (v := .slice (A1) (j) (c1)) (fun w hC => x_load Tryz.isAgg30 rfl (hC.cell 1 rfl rfl)) (f_free rfl (v := .map (some m1)) (fun w hC => x_move rfl) ?_))
 refine f_free rfl (v := .string (bs ((sortS ks)[j]'(by rw [sortS_len]; omega)))) (fun w hC => x_move rfl) ?_
 obtain ⟨cy, y, hlk, hlt_, hym, hry⟩ := lookM_some hk1 hr1 (sortS_mem.1 (List.getElem_mem (l := sortS ks) (n := j) (by rw [sortS_len]; omega)))
 have hoy := hry.one_
 have hly : cy.length = 4 := hry.length.trans (size_treeD _)
 refine f_free rfl (v := .agg (List.toArray cy)) (fun w hC => x_lookupE Tryz.underlying79 Tryz.underlying9 Tryz.zeroValue32 rfl rfl (hC.heap (i := 0) rfl) (by rw [hlk]; rfl)) ?_
 refine f_call rfl (ih y hym _ _ cy (hF.rep hry) (okTs_mem hok.2.2 y hym) (hnx.2 y hym) (by have := sizeTs_mem hym; omega)) (x_call1 en_84 rfl rfl) ?_
 rintro _ w ⟨ct, rfl, hRt, hE⟩
 have hlt : ct.length = 4 := hRt.length.trans (size_treeD _)
 have hot := hRt.one_
 have hYX := RX.made (ids := [m1, b3, b2, b1] ++ sb.map (·.1)) hF.same.size (fun x hx => hF.lt_ids (by grind)) hRt
 replace hDX := (hDX.ext hE).append hYX
 replace hF := hF.ext hE
 replace hKX := hKX.ext hE
 clear hE hYX
 refine ⟨hF.sub (.cons_cons _ (.cons_cons _ (.cons_cons _ (.cons_cons _ (List.nil_sublist _))))), ?_⟩
 refine f_new rfl (v := fun b => .slice (some ⟨b, 0, none⟩) 1 1) hF (x_buildSlice1 (l := ct) Tryz.underlying30 Tryz.sizeOf32 Tryz.zeroValue32 (by decide) (by decide) rfl hlt) ?_
 clear hF; intro b6 w hb6 hF hE
 replace hDX := hDX.alloc hE hb6
 replace hKX := hKX.alloc hE hb6
 clear hE
 refine ⟨hF.sub (.cons _ (.cons_cons _ (.cons_cons _ (.cons_cons _ (.cons_cons _ (List.nil_sublist _)))))), ?_⟩
 refine f_append [(b6, .cells (List.toArray ct) 32), (m1, mapO (l1)), (b3, .cells #[.int .i64 (k), .string (bs (t)), .slice (A2) (ks.length) (c2), .slice (A1) (j) (c1)] 32), (b2, .cells #[.int .i64 (0), .string (bs ([])), .slice (none) (0) (0), .slice (none) (0) (0)] 32), (b1, .cells #[.int .i64 (k), .string (bs (t)), .slice (A) (ks.length) (c), .slice (B) (xs.length) (e)] 32)] [] (news := ct) (len' := j + 1) (ys := cs1 ++ ct) rfl el_30 hF hS rfl rfl (by rw [hlt]) (fun _ => ⟨_, rfl, cells_opt (hF.cellsAll 0 rfl)⟩) (ones_eq hot) (by simp only [maxLen]; omega) (rfl) (rfl) (by omega) ?_
 clear hF; intro A3 c3 i_3 w hS3_i hF hE hnew
 replace hDX := hDX.app (l := [b6, m1, b3, b2, b1]) hE hnew
 replace hKX := hKX.app (l := [b6, m1, b3, b2, b1]) hE hnew
 clear hE hnew
 refine ⟨hF.sub (.cons _ (.cons_cons _ (.cons_cons _ (.cons_cons _ (.cons_cons _ (List.nil_sublist _)))))), ?_⟩
 refine f_free rfl (v := .pointer (some ⟨b3, 3, none⟩)) (fun w hC => x_fieldAddrO fa_32_3 rfl) ?_
 refine f_storez rfl 2 (l := [.slice (A3) (j + 1) (c3)]) (cs' := #[.int .i64 (k), .string (bs (t)), .slice (A2) (ks.length) (c2), .slice (A3) (j + 1) (c3)]) hF Tryz.sizeOf30 rfl (v := .slice (A3) (j + 1) (c3)) rfl rfl (by simp [one]) rfl (Nat.le_of_ble_eq_true rfl) rfl ?_
 clear hF; intro w hF hE
 replace hDX := hDX.store hE (by grind)
 replace hKX := hKX.store hE (by grind)
 clear hE
 replace hF : FR w0 [] ([(b6, .cells (List.toArray ct) 32), (m1, mapO (l1)), (b3, .cells #[.int .i64 (k), .string (bs (t)), .slice (A2) (ks.length) (c2), .slice (A3) (j + 1) (c3)] 32), (b2, .cells #[.int .i64 (0), .string (bs ([])), .slice (none) (0) (0), .slice (none) (0) (0)] 32), (b1, .cells #[.int .i64 (k), .string (bs (t)), .slice (A) (ks.length) (c), .slice (B) (xs.length) (e)] 32)] ++ (i_3 ++ [])) w := hF
 refine d_nil (e_block (e_seq (c_region (o_val (v := .int .i64 (((j : Int) : Int) + 1)) (x_add rfl rfl (wrap_id (by omega) (by omega))) (o_val (x_move rfl) (o_nil ?_))))))
 refine e_inv ⟨_, ?_, j + 1, A3, c3, i_3, cs1 ++ ct, rfl, (by omega), (by assumption), (by rw [outs_take (by rw [sortS_len]; omega) hlt_]; exact hDX.sub (by grind)), (hKX.sub (by grind)), ⟨rfl, rfl, rfl, rfl, rfl, rfl, trivial⟩, hF.drop 1⟩
 omega
 refine c_iff rfl ?_
 refine c_exit (e_exit rfl ?_)
 refine e_seq (c_seq (c_region (o_val (v := .agg #[.int .i64 (k), .string (bs (t)), .slice (A2) (ks.length) (c2), .slice (A1) (j) (c1)]) (x_loadS (l := [.int .i64 (k), .string (bs (t)), .slice (A2) (ks.length) (c2), .slice (A1) (j) (c1)]) Tryz.isAgg32 Tryz.sizeOf32 rfl rfl (hF.cellsAll 1 rfl)) ?_)))
 refine o_store 2 (l := [.int .i64 (k), .string (bs (t)), .slice (A2) (ks.length) (c2), .slice (A1) (j) (c1)]) (cs' := #[.int .i64 (k), .string (bs (t)), .slice (A2) (ks.length) (c2), .slice (A1) (j) (c1)]) hF Tryz.sizeOf32 rfl (v := .agg #[.int .i64 (k), .string (bs (t)), .slice (A2) (ks.length) (c2), .slice (A1) (j) (c1)]) rfl rfl (by simp [one]) rfl (Nat.le_of_ble_eq_true rfl) rfl ?_
 clear hF; intro w hF hE
 replace hDX := hDX.store hE (by grind)
 replace hKX := hKX.store hE (by grind)
 clear hE
 replace hF : FR w0 [] ([(m1, mapO (l1)), (b3, .cells #[.int .i64 (k), .string (bs (t)), .slice (A2) (ks.length) (c2), .slice (A1) (j) (c1)] 32), (b2, .cells #[.int .i64 (k), .string (bs (t)), .slice (A2) (ks.length) (c2), .slice (A1) (j) (c1)] 32), (b1, .cells #[.int .i64 (k), .string (bs (t)), .slice (A) (ks.length) (c), .slice (B) (xs.length) (e)] 32)] ++ (sb ++ [])) w := hF
 refine o_nil (e_seq ?_)
 refine c_ret (e_ret (post_ret (res_c rfl (l := [.int .i64 (k), .string (bs (t)), .slice (A2) (ks.length) (c2), .slice (A1) (j) (c1)]) rfl Tryz.isAgg32 Tryz.sizeOf32 rfl (hF.cellsAll 2 rfl)) ?_))
 have ej : j = ks.length := by omega
 subst ej
 rw [List.take_of_length_le (by rw [outs_len]; exact Nat.le_refl _)] at hDX
 refine ⟨_, rfl, ?_, hF.same⟩
 rw [sortT, if_pos k6]
 · exact Rep.tree_mk hk ht hKX.done (hS.rep (pre := [_, _, _, _]) (post := []) hF hDX (by rw [treesD_length]; exact outs_len ks xs))
theorem sorted_c (x : Tree) : SortedC x := Tree.ind sorted_step x
end Go.Scarf
namespace Go.Scarf
open Go.RowKit Go.Proofs
def zeroT : Tree := .node 0 [] [] []
theorem zero_rep (S : Nat → Prop) (w : World) : Rep S w (treeD zeroT) [.int .i64 0, .string (bs []), .slice none 0 0, .slice none 0 0] :=
  Rep.tree_mk ⟨by omega, by omega⟩ (by simp) (Rep.nil_slice 0 (by omega) none) (Rep.nil_slice 0 (by omega) none)
def sortedV (x : Tree) : Tree := if openB x then sortT x else zeroT
def copyV (x : Tree) : Tree := if openB x then x else zeroT
def getV (x : Tree) (key : Str) : Tree × Bool := if openB x = true ∧ x.kind = 6 then match lookT x.keys x.items key with | some y => (y, true) | none => (zeroT, false) else (zeroT, false)
theorem nodeB_keys {k : Int} {t : Str} {ks : List Str} {xs : List Tree} (h : nodeB (.node k t ks xs) = true) : ks.length ≤ xs.length := by
  by_cases h6 : k = 6
  · subst h6; have := (node6 h).2; omega
  · have : ks = [] := by
      simp only [nodeB] at h
      by_cases h5 : k = 5
      · subst h5; simp at h; exact h.1
      · rw [if_neg h5, if_neg h6] at h
        cases ks with
        | nil => rfl
        | cons a l => simp at h
    subst this; simp
theorem keys_lt : ∀ x : Tree, allT nodeB x = true → keysT x + 1 ≤ sizeT x := fun x => Tree.ind (Q := fun x => allT nodeB x = true → keysT x + 1 ≤ sizeT x) (fun k t ks xs ih h => by
  obtain ⟨h1, h2⟩ := allT_node h
  have h3 := nodeB_keys h1
  have h7 : ∀ ys : List Tree, (∀ y ∈ ys, y ∈ xs) → ys.length + keysTs ys ≤ sizeTs ys := by
    intro ys
    induction ys with
    | nil => intro _; simp [keysTs, sizeTs]
    | cons y ys ihy =>
      intro hm
      have h5 := ihy (fun z hz => hm z (by simp [hz]))
      have h9 := ih y (hm y (by simp)) (h2 y (hm y (by simp)))
      simp only [keysTs, sizeTs, List.length_cons]; omega
  have := h7 xs (fun _ h => h)
  rw [keysT, sizeT]
  omega) x
theorem lookT_mem {key : Str} {y : Tree} : ∀ {ks : List Str} {xs : List Tree}, lookT ks xs key = some y → y ∈ xs
  | [], xs, h => by cases xs <;> cases h
  | k :: ks, [], h => by cases h
  | k :: ks, x :: xs, h => by
    rw [lookT] at h
    by_cases he : k = key
    · rw [if_pos he] at h; injection h with h; simp [h]
    · rw [if_neg he] at h; simp [lookT_mem h]
theorem okTs_of : ∀ {xs : List Tree}, (∀ x ∈ xs, okT x) → okTs xs
  | [], _ => by rw [okTs]; trivial
  | x :: xs, h => by rw [okTs]; exact ⟨h x (by simp), okTs_of (fun y hy => h y (by simp [hy]))⟩
theorem open_size {x : Tree} (h : openB x = true) : sizeT x ≤ 4096 := by
  unfold openB sizedB at h; simp only [Bool.and_eq_true, decide_eq_true_eq] at h; exact h.1.1
set_option maxHeartbeats 1000000 in
set_option maxRecDepth 10000 in
theorem sortedV_c (x : Tree) (hsz : sizeT x ≤ 1000000000) (S : Nat → Prop) (w0 : World) (cs : List Value) (hR : Rep S w0 (treeD x) cs) (hk : okT x) (hG : Gl w0) : NewC 68 #[.agg cs.toArray] (treeD (sortedV x)) w0 := by
 have hl : cs.length = 4 := hR.length.trans (size_treeD x)
 have ho := hR.one_
 refine calls_start Tryz.func68 rfl Tryz.ntmps68 (Nat.le_of_ble_eq_true rfl) (args_1 _) ?_
 have hF := FR.start w0 []
 refine c_seq (c_region ?_)
 refine o_box (v := .agg (List.toArray cs)) (cs := (List.toArray cs)) hF rfl rfl ?_
 clear hF; rintro b1 w hb1 hF -
 refine o_alloc (cs := #[.int .i64 (0), .string (bs ([])), .slice (none) (0) (0), .slice (none) (0) (0)]) hF Tryz.zeroValue32 rfl ?_
 clear hF; rintro b2 w hb2 hF -
 refine o_nil (e_seq (c_seq (c_seq (c_region (o_val (v := .agg (List.toArray cs)) (x_loadS (l := cs) Tryz.isAgg32 Tryz.sizeOf32 rfl hl (hF.cellsAll 1 rfl)) ?_)))))
 refine o_call (open_v x hsz S _ cs (hF.rep hR) hk (hG.ext hF.same)) (x_call1 en_53 rfl rfl) ?_
 rintro _ w ⟨rfl, hE⟩
 replace hF := hF.ext hE
 clear hE
 refine o_val (v := .bool (!(openB x))) (x_not rfl) (o_nil (e_seq ?_))
 refine c_split (d := 5) (b := !(openB x)) rfl (fun hc0 => ?_) (fun hc0 => ?_)
 refine c_ift rfl (c_seq (c_region ?_))
 refine o_val (w' := w) (v := .agg #[.int .i64 (0), .string (bs ([])), .slice (none) (0) (0), .slice (none) (0) (0)]) (by kernel_rfl) ?_
 refine o_store 0 (l := [.int .i64 (0), .string (bs ([])), .slice (none) (0) (0), .slice (none) (0) (0)]) (cs' := #[.int .i64 (0), .string (bs ([])), .slice (none) (0) (0), .slice (none) (0) (0)]) hF Tryz.sizeOf32 rfl (v := .agg #[.int .i64 (0), .string (bs ([])), .slice (none) (0) (0), .slice (none) (0) (0)]) rfl rfl (by simp [one]) rfl (Nat.le_of_ble_eq_true rfl) rfl ?_
 clear hF; rintro w hF -
 replace hF : FR w0 [] [(b2, .cells #[.int .i64 (0), .string (bs ([])), .slice (none) (0) (0), .slice (none) (0) (0)] 32), (b1, .cells (List.toArray cs) 32)] w := hF
 refine o_nil (e_seq ?_)
 refine c_ret (e_ret (post_ret (res_c rfl (l := [.int .i64 (0), .string (bs ([])), .slice (none) (0) (0), .slice (none) (0) (0)]) rfl Tryz.isAgg32 Tryz.sizeOf32 rfl (hF.cellsAll 0 rfl)) ?_))
 have ho_ : openB x = false := by simpa using hc0
 refine ⟨_, rfl, ?_, hF.same⟩
 rw [sortedV, ho_]
 exact zero_rep _ _
 refine c_iff rfl (c_skip (e_seq (c_seq (c_region (o_val (v := .agg (List.toArray cs)) (x_loadS (l := cs) Tryz.isAgg32 Tryz.sizeOf32 rfl hl (hF.cellsAll 1 rfl)) ?_)))))
 refine o_call (sorted_c x S _ cs (hF.rep hR) hk (open_all (by simpa using hc0)) hsz) (x_call1 en_84 rfl rfl) ?_
 rintro _ w ⟨ct, rfl, hRt, hE⟩
 have hlct : ct.length = 4 := hRt.length.trans (size_treeD _)
 have hoct := hRt.one_
 have hXX := RX.made (ids := [b2, b1]) hF.same.size (fun x hx => hF.lt_ids (by grind)) hRt
 replace hF := hF.ext hE
 clear hE hRt
 refine o_store 0 (l := ct) (cs' := (List.toArray ct)) hF (by rw [hlct]; exact Tryz.sizeOf32) rfl (v := .agg (List.toArray ct)) rfl rfl (hoct) rfl (by rw [hlct]; exact Nat.le_of_ble_eq_true rfl) (putA_all (by rw [hlct]; rfl)) ?_
 clear hF; intro w hF hE
 replace hXX := hXX.store hE (by grind)
 clear hE
 replace hF : FR w0 [] [(b2, .cells (List.toArray ct) 32), (b1, .cells (List.toArray cs) 32)] w := hF
 refine o_nil (e_seq ?_)
 refine c_ret (e_ret (post_ret (res_c rfl (l := ct) rfl Tryz.isAgg32 Tryz.sizeOf32 hlct (hF.cellsAll 0 rfl)) ?_))
 have ho_ : openB x = true := by simpa using hc0
 refine ⟨_, rfl, ?_, hF.same⟩
 rw [sortedV, ho_]
 · exact hXX.done
set_option maxHeartbeats 1000000 in
set_option maxRecDepth 10000 in
theorem copyV_c (x : Tree) (hsz : sizeT x ≤ 1000000000) (S : Nat → Prop) (w0 : World) (cs : List Value) (hR : Rep S w0 (treeD x) cs) (hk : okT x) (hG : Gl w0) : NewC 34 #[.agg cs.toArray] (treeD (copyV x)) w0 := by
 have hl : cs.length = 4 := hR.length.trans (size_treeD x)
 have ho := hR.one_
 refine calls_start Tryz.func34 rfl Tryz.ntmps34 (Nat.le_of_ble_eq_true rfl) (args_1 _) ?_
 have hF := FR.start w0 []
 refine c_seq (c_region ?_)
 refine o_box (v := .agg (List.toArray cs)) (cs := (List.toArray cs)) hF rfl rfl ?_
 clear hF; rintro b1 w hb1 hF -
 refine o_alloc (cs := #[.int .i64 (0), .string (bs ([])), .slice (none) (0) (0), .slice (none) (0) (0)]) hF Tryz.zeroValue32 rfl ?_
 clear hF; rintro b2 w hb2 hF -
 refine o_nil (e_seq (c_seq (c_seq (c_region (o_val (v := .agg (List.toArray cs)) (x_loadS (l := cs) Tryz.isAgg32 Tryz.sizeOf32 rfl hl (hF.cellsAll 1 rfl)) ?_)))))
 refine o_call (open_v x hsz S _ cs (hF.rep hR) hk (hG.ext hF.same)) (x_call1 en_53 rfl rfl) ?_
 rintro _ w ⟨rfl, hE⟩
 replace hF := hF.ext hE
 clear hE
 refine o_val (v := .bool (!(openB x))) (x_not rfl) (o_nil (e_seq ?_))
 refine c_split (d := 5) (b := !(openB x)) rfl (fun hc0 => ?_) (fun hc0 => ?_)
 refine c_ift rfl (c_seq (c_region ?_))
 refine o_val (w' := w) (v := .agg #[.int .i64 (0), .string (bs ([])), .slice (none) (0) (0), .slice (none) (0) (0)]) (by kernel_rfl) ?_
 refine o_store 0 (l := [.int .i64 (0), .string (bs ([])), .slice (none) (0) (0), .slice (none) (0) (0)]) (cs' := #[.int .i64 (0), .string (bs ([])), .slice (none) (0) (0), .slice (none) (0) (0)]) hF Tryz.sizeOf32 rfl (v := .agg #[.int .i64 (0), .string (bs ([])), .slice (none) (0) (0), .slice (none) (0) (0)]) rfl rfl (by simp [one]) rfl (Nat.le_of_ble_eq_true rfl) rfl ?_
 clear hF; rintro w hF -
 replace hF : FR w0 [] [(b2, .cells #[.int .i64 (0), .string (bs ([])), .slice (none) (0) (0), .slice (none) (0) (0)] 32), (b1, .cells (List.toArray cs) 32)] w := hF
 refine o_nil (e_seq ?_)
 refine c_ret (e_ret (post_ret (res_c rfl (l := [.int .i64 (0), .string (bs ([])), .slice (none) (0) (0), .slice (none) (0) (0)]) rfl Tryz.isAgg32 Tryz.sizeOf32 rfl (hF.cellsAll 0 rfl)) ?_))
 have ho_ : openB x = false := by simpa using hc0
 refine ⟨_, rfl, ?_, hF.same⟩
 rw [copyV, ho_]
 exact zero_rep _ _
 refine c_iff rfl (c_skip (e_seq (c_seq (c_region (o_val (v := .agg (List.toArray cs)) (x_loadS (l := cs) Tryz.isAgg32 Tryz.sizeOf32 rfl hl (hF.cellsAll 1 rfl)) ?_)))))
 refine o_call (clone_c x S _ cs (hF.rep hR) hsz (by have := keys_lt x (open_all (by simpa using hc0)); omega)) (x_call1 en_54 rfl rfl) ?_
 rintro _ w ⟨ct, rfl, hRt, hE⟩
 have hlct : ct.length = 4 := hRt.length.trans (size_treeD _)
 have hoct := hRt.one_
 have hXX := RX.made (ids := [b2, b1]) hF.same.size (fun x hx => hF.lt_ids (by grind)) hRt
 replace hF := hF.ext hE
 clear hE hRt
 refine o_store 0 (l := ct) (cs' := (List.toArray ct)) hF (by rw [hlct]; exact Tryz.sizeOf32) rfl (v := .agg (List.toArray ct)) rfl rfl (hoct) rfl (by rw [hlct]; exact Nat.le_of_ble_eq_true rfl) (putA_all (by rw [hlct]; rfl)) ?_
 clear hF; intro w hF hE
 replace hXX := hXX.store hE (by grind)
 clear hE
 replace hF : FR w0 [] [(b2, .cells (List.toArray ct) 32), (b1, .cells (List.toArray cs) 32)] w := hF
 refine o_nil (e_seq ?_)
 refine c_ret (e_ret (post_ret (res_c rfl (l := ct) rfl Tryz.isAgg32 Tryz.sizeOf32 hlct (hF.cellsAll 0 rfl)) ?_))
 have ho_ : openB x = true := by simpa using hc0
 refine ⟨_, rfl, ?_, hF.same⟩
 rw [copyV, ho_]
 · exact hXX.done
set_option maxHeartbeats 1000000 in
set_option maxRecDepth 10000 in
theorem getV_c (k : Int) (t : Str) (ks : List Str) (xs : List Tree) (key : Str) (hsz : sizeT (.node k t ks xs) ≤ 1000000000) (S : Nat → Prop) (w0 : World) (cs : List Value) (hR : Rep S w0 (treeD (.node k t ks xs)) cs) (hk : okT (.node k t ks xs)) (hG : Gl w0) : Calls Tryz.prog 44 #[.agg cs.toArray, .string (bs key)] w0 (Ret fun v w' => ∃ ct : List Value, v = .tuple #[.agg ct.toArray, .bool (getV (.node k t ks xs) key).2] ∧ Rep (Btw w0 w') w' (treeD (getV (.node k t ks xs) key).1) ct ∧ Same [] w0 w') := by
 replace hR := hR.old
 obtain ⟨A, c, B, e, rfl, -, -, hK, hX⟩ := hR.tree_inv
 refine calls_start Tryz.func44 rfl Tryz.ntmps44 (Nat.le_of_ble_eq_true rfl) (args_2 _ _) ?_
 have hF := FR.start w0 []
 refine c_seq (c_region ?_)
 refine o_box (v := .agg #[.int .i64 (k), .string (bs (t)), .slice (A) (ks.length) (c), .slice (B) (xs.length) (e)]) (cs := #[.int .i64 (k), .string (bs (t)), .slice (A) (ks.length) (c), .slice (B) (xs.length) (e)]) hF rfl rfl ?_
 clear hF; rintro b1 w hb1 hF -
 refine o_alloc (cs := #[.int .i64 (0), .string (bs ([])), .slice (none) (0) (0), .slice (none) (0) (0)]) hF Tryz.zeroValue32 rfl ?_
 clear hF; rintro b2 w hb2 hF -
 refine o_val (x_assign rfl) (o_nil (e_seq (c_seq (c_seq (c_region (o_val (v := .agg #[.int .i64 (k), .string (bs (t)), .slice (A) (ks.length) (c), .slice (B) (xs.length) (e)]) (x_loadS (l := [.int .i64 (k), .string (bs (t)), .slice (A) (ks.length) (c), .slice (B) (xs.length) (e)]) Tryz.isAgg32 Tryz.sizeOf32 rfl rfl (hF.cellsAll 1 rfl)) ?_))))))
 refine o_call (open_v (.node k t ks xs) hsz _ _ _ (hF.rep hR) hk (hG.ext hF.same)) (x_call1 en_53 rfl rfl) ?_
 rintro _ w ⟨rfl, hE⟩
 replace hF := hF.ext hE
 clear hE
 refine o_val (v := .bool (!(openB (.node k t ks xs)))) (x_not rfl) (o_val (x_move rfl) ?_)
 refine o_split (d := 11) (b := !(openB (.node k t ks xs))) rfl (fun hg0 => ?_) (fun hg0 => ?_)
 refine o_off (o_off (o_off (o_val (x_pickt rfl rfl) (o_nil (e_seq (c_ift rfl (c_seq (c_region ?_))))))))
 refine o_val (w' := w) (v := .agg #[.int .i64 (0), .string (bs ([])), .slice (none) (0) (0), .slice (none) (0) (0)]) (by kernel_rfl) ?_
 refine o_store 0 (l := [.int .i64 (0), .string (bs ([])), .slice (none) (0) (0), .slice (none) (0) (0)]) (cs' := #[.int .i64 (0), .string (bs ([])), .slice (none) (0) (0), .slice (none) (0) (0)]) hF Tryz.sizeOf32 rfl (v := .agg #[.int .i64 (0), .string (bs ([])), .slice (none) (0) (0), .slice (none) (0) (0)]) rfl rfl (by simp [one]) rfl (Nat.le_of_ble_eq_true rfl) rfl ?_
 clear hF; rintro w hF -
 replace hF : FR w0 [] [(b2, .cells #[.int .i64 (0), .string (bs ([])), .slice (none) (0) (0), .slice (none) (0) (0)] 32), (b1, .cells #[.int .i64 (k), .string (bs (t)), .slice (A) (ks.length) (c), .slice (B) (xs.length) (e)] 32)] w := hF
 refine o_val (x_assign rfl) (o_nil (e_seq ?_))
 refine c_ret (e_ret (post_ret (res_ct rfl (l := [.int .i64 (0), .string (bs ([])), .slice (none) (0) (0), .slice (none) (0) (0)]) rfl Tryz.isAgg32 Tryz.sizeOf32 rfl (hF.cellsAll 0 rfl) (v := .bool false) rfl) ?_))
 have hg : getV (.node k t ks xs) key = (zeroT, false) := by rw [getV, if_neg]; rintro ⟨h1, h2⟩; rw [Tree.kind] at h2; simp_all
 refine ⟨_, by rw [hg], ?_, hF.same⟩
 rw [hg]
 exact zero_rep _ _
 refine o_val (v := .pointer (some ⟨b1, 0, none⟩)) (x_fieldAddrO fa_32_0 rfl) (o_val (v := .int .i64 (k)) (x_load Tryz.isAgg3 rfl (hF.cell 1 rfl rfl)) (o_val (v := .bool (decide ((k : Int) ≠ (6 : Int)))) (x_neq rfl rfl) (o_val (x_pickf rfl rfl) (o_nil (e_seq ?_)))))
 refine c_splitd (d := 15) (p := (k : Int) ≠ (6 : Int)) rfl (fun hc0 => ?_) (fun hc0 => ?_)
 refine c_ift rfl (c_seq (c_region ?_))
 refine o_val (w' := w) (v := .agg #[.int .i64 (0), .string (bs ([])), .slice (none) (0) (0), .slice (none) (0) (0)]) (by kernel_rfl) ?_
 refine o_store 0 (l := [.int .i64 (0), .string (bs ([])), .slice (none) (0) (0), .slice (none) (0) (0)]) (cs' := #[.int .i64 (0), .string (bs ([])), .slice (none) (0) (0), .slice (none) (0) (0)]) hF Tryz.sizeOf32 rfl (v := .agg #[.int .i64 (0), .string (bs ([])), .slice (none) (0) (0), .slice (none) (0) (0)]) rfl rfl (by simp [one]) rfl (Nat.le_of_ble_eq_true rfl) rfl ?_
 clear hF; rintro w hF -
 replace hF : FR w0 [] [(b2, .cells #[.int .i64 (0), .string (bs ([])), .slice (none) (0) (0), .slice (none) (0) (0)] 32), (b1, .cells #[.int .i64 (k), .string (bs (t)), .slice (A) (ks.length) (c), .slice (B) (xs.length) (e)] 32)] w := hF
 refine o_val (x_assign rfl) (o_nil (e_seq ?_))
 refine c_ret (e_ret (post_ret (res_ct rfl (l := [.int .i64 (0), .string (bs ([])), .slice (none) (0) (0), .slice (none) (0) (0)]) rfl Tryz.isAgg32 Tryz.sizeOf32 rfl (hF.cellsAll 0 rfl) (v := .bool false) rfl) ?_))
 have hg : getV (.node k t ks xs) key = (zeroT, false) := by rw [getV, if_neg]; rintro ⟨h1, h2⟩; rw [Tree.kind] at h2; simp_all
 refine ⟨_, by rw [hg], ?_, hF.same⟩
 rw [hg]
 exact zero_rep _ _
 refine c_iff rfl (c_skip (e_seq (c_seq (c_region (o_val (v := .agg #[.int .i64 (k), .string (bs (t)), .slice (A) (ks.length) (c), .slice (B) (xs.length) (e)]) (x_loadS (l := [.int .i64 (k), .string (bs (t)), .slice (A) (ks.length) (c), .slice (B) (xs.length) (e)]) Tryz.isAgg32 Tryz.sizeOf32 rfl rfl (hF.cellsAll 1 rfl)) ?_)))))
 have ho_ : openB (.node k t ks xs) = true := by simp_all
 have k6 : k = 6 := by simp_all
 have hnx := allT_node (open_all ho_)
 refine o_call (members_c k t ks xs (node6 (k6 ▸ hnx.1)).1 (node6 (k6 ▸ hnx.1)).2 _ _ _ (hF.rep hR)) (x_call1 en_66 rfl rfl) ?_
 rintro _ w ⟨m1, l1, rfl, hge, hm1, hk1, hr1, hE⟩
 replace hF := hF.cons_ext hE hm1 hge
 replace hr1 := hr1.back hF.same
 clear hE hm1 hge
 refine o_val (x_move rfl) ?_
 rcases lookM_tree key hk1 hr1 with ⟨hlk, hlt⟩ | ⟨cy, y, hlk, hlt, hym, hry⟩
 have hry := zero_rep S w
 have hkz : keysT zeroT ≤ 8796093022208 := by decide
 have hsz_ : sizeT zeroT ≤ 1000000000 := by decide
 refine o_val (v := .tuple #[.agg #[.int .i64 (0), .string (bs ([])), .slice (none) (0) (0), .slice (none) (0) (0)], .bool false]) (x_lookup2E Tryz.underlying79 Tryz.underlying9 Tryz.zeroValue32 rfl rfl (hF.heap (i := 0) rfl) (by rw [hlk]; rfl) (by rw [hlk]; rfl)) ?_
 refine o_val (x_move rfl) (o_val (x_extract rfl rfl) (o_val (x_extract rfl rfl) ?_))
 refine o_lay (l := [.int .i64 (0), .string (bs ([])), .slice (none) (0) (0), .slice (none) (0) (0)]) hF Tryz.zeroValue32 Tryz.sizeOf32 rfl (v := .agg #[.int .i64 (0), .string (bs ([])), .slice (none) (0) (0), .slice (none) (0) (0)]) rfl rfl (by simp [one]) rfl ?_
 clear hF; rintro b3 w hb3 hF -
 refine o_val (x_assign rfl) (o_nil (e_seq (c_seq (c_region (o_val (v := .agg #[.int .i64 (0), .string (bs ([])), .slice (none) (0) (0), .slice (none) (0) (0)]) (x_loadS (l := [.int .i64 (0), .string (bs ([])), .slice (none) (0) (0), .slice (none) (0) (0)]) Tryz.isAgg32 Tryz.sizeOf32 rfl rfl (hF.cellsAll 0 rfl)) ?_)))))
 refine o_call (clone_c zeroT S _ _ (zero_rep S _) hsz_ hkz) (x_call1 en_54 rfl rfl) ?_
 rintro _ w ⟨ct, rfl, hRt, hE⟩
 have hlct : ct.length = 4 := hRt.length.trans (size_treeD _)
 have hoct := hRt.one_
 have hXX := RX.made (ids := [b1, b2]) hF.same.size (fun x hx => hF.lt_ids (by grind)) hRt
 replace hF := hF.ext hE
 clear hE hRt
 refine o_val (x_move rfl) ?_
 refine o_store 2 (l := ct) (cs' := (List.toArray ct)) hF (by rw [hlct]; exact Tryz.sizeOf32) rfl (v := .agg (List.toArray ct)) rfl rfl (hoct) rfl (by rw [hlct]; exact Nat.le_of_ble_eq_true rfl) (putA_all (by rw [hlct]; rfl)) ?_
 clear hF; intro w hF hE
 replace hXX := hXX.store hE (by grind)
 clear hE
 replace hF : FR w0 [] [(b3, .cells #[.int .i64 (0), .string (bs ([])), .slice (none) (0) (0), .slice (none) (0) (0)] 32), (m1, mapO (l1)), (b2, .cells (List.toArray ct) 32), (b1, .cells #[.int .i64 (k), .string (bs (t)), .slice (A) (ks.length) (c), .slice (B) (xs.length) (e)] 32)] w := hF
 refine o_val (x_assign rfl) (o_nil (e_seq ?_))
 refine c_ret (e_ret (post_ret (res_ct rfl (l := ct) rfl Tryz.isAgg32 Tryz.sizeOf32 hlct (hF.cellsAll 2 rfl) (v := .bool false) rfl) ?_))
 have hg : getV (.node k t ks xs) key = (zeroT, false) := by rw [getV, if_pos ⟨ho_, by rw [Tree.kind]; exact k6⟩]; show (match lookT ks xs key with | some y => (y, true) | none => (zeroT, false)) = _; rw [hlt]
 refine ⟨_, by rw [hg], ?_, hF.same⟩
 rw [hg]
 · exact hXX.done
 have hoy := hry.one_
 have hly : cy.length = 4 := hry.length.trans (size_treeD _)
 have hsz_ : sizeT y ≤ 1000000000 := by have := sizeTs_mem hym; rw [sizeT] at hsz; omega
 have hkz : keysT y ≤ 8796093022208 := by have := keys_lt y (hnx.2 y hym); omega
 refine o_val (v := .tuple #[.agg (List.toArray cy), .bool true]) (x_lookup2E Tryz.underlying79 Tryz.underlying9 Tryz.zeroValue32 rfl rfl (hF.heap (i := 0) rfl) (by rw [hlk]; rfl) (by rw [hlk]; rfl)) ?_
 refine o_val (x_move rfl) (o_val (x_extract rfl rfl) (o_val (x_extract rfl rfl) ?_))
 refine o_lay (l := cy) hF Tryz.zeroValue32 (by rw [hly]; exact Tryz.sizeOf32) (by rw [hly]; rfl) (v := .agg (List.toArray cy)) rfl rfl (hoy) rfl ?_
 clear hF; rintro b4 w hb4 hF -
 refine o_val (x_assign rfl) (o_nil (e_seq (c_seq (c_region (o_val (v := .agg (List.toArray cy)) (x_loadS (l := cy) Tryz.isAgg32 Tryz.sizeOf32 rfl hly (hF.cellsAll 0 rfl)) ?_)))))
 refine o_call (clone_c y _ _ cy (hF.rep hry) hsz_ hkz) (x_call1 en_54 rfl rfl) ?_
 rintro _ w ⟨ct, rfl, hRt, hE⟩
 have hlct : ct.length = 4 := hRt.length.trans (size_treeD _)
 have hoct := hRt.one_
 have hXX := RX.made (ids := [b1, b2]) hF.same.size (fun x hx => hF.lt_ids (by grind)) hRt
 replace hF := hF.ext hE
 clear hE hRt
 refine o_val (x_move rfl) ?_
 refine o_store 2 (l := ct) (cs' := (List.toArray ct)) hF (by rw [hlct]; exact Tryz.sizeOf32) rfl (v := .agg (List.toArray ct)) rfl rfl (hoct) rfl (by rw [hlct]; exact Nat.le_of_ble_eq_true rfl) (putA_all (by rw [hlct]; rfl)) ?_
 clear hF; intro w hF hE
 replace hXX := hXX.store hE (by grind)
 clear hE
 replace hF : FR w0 [] [(b4, .cells (List.toArray cy) 32), (m1, mapO (l1)), (b2, .cells (List.toArray ct) 32), (b1, .cells #[.int .i64 (k), .string (bs (t)), .slice (A) (ks.length) (c), .slice (B) (xs.length) (e)] 32)] w := hF
 refine o_val (x_assign rfl) (o_nil (e_seq ?_))
 refine c_ret (e_ret (post_ret (res_ct rfl (l := ct) rfl Tryz.isAgg32 Tryz.sizeOf32 hlct (hF.cellsAll 2 rfl) (v := .bool true) rfl) ?_))
 have hg : getV (.node k t ks xs) key = (y, true) := by rw [getV, if_pos ⟨ho_, by rw [Tree.kind]; exact k6⟩]; show (match lookT ks xs key with | some y => (y, true) | none => (zeroT, false)) = _; rw [hlt]
 refine ⟨_, by rw [hg], ?_, hF.same⟩
 rw [hg]
 · exact hXX.done
end Go.Scarf
