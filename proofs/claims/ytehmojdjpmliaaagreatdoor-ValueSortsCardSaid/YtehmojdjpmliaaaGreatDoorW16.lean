/- A part of the proof. -/
import Derived.Test.YtehmojdjpmliaaaGreatDoorW15
import Derived.Test.YtehmojdjpmliaaaGreatDoorFacts2
import Derived.Test.YtehmojdjpmliaaaGreatDoorKeys
set_option linter.all false
namespace Go.Scarf
open Go.RowKit Go.Proofs
mutual
def keysT : Tree → Nat | .node _ _ ks xs => ks.length + keysTs xs
def keysTs : List Tree → Nat | [] => 0 | x :: xs => keysT x + keysTs xs
end
theorem keysTs_mem : ∀ {xs : List Tree} {x : Tree}, x ∈ xs → keysT x ≤ keysTs xs
  | [], _, h => absurd h (by simp)
  | y :: ys, x, h => by
    rw [keysTs]
    rcases List.mem_cons.1 h with rfl | h
    · omega
    · have := keysTs_mem h; omega
theorem treesD_take {xs : List Tree} {j : Nat} (h : j < xs.length) : treesD (xs.take (j + 1)) = treesD (xs.take j) ++ [treeD xs[j]] := by
  rw [List.take_succ_eq_append_getElem h, treesD_eq, treesD_eq, List.map_append]; rfl
theorem treesD_drop {xs : List Tree} {j : Nat} (h : j < xs.length) : treesD (xs.drop j) = treeD xs[j] :: treesD (xs.drop (j + 1)) := by
  rw [List.drop_eq_getElem_cons h]; rfl
theorem RepL.lits {S S' : Nat → Prop} {w w' : World} : ∀ {ks : List Str} {cs : List Value}, RepL S w (ks.map strD) cs → RepL S' w' (ks.map strD) cs
  | [], cs, h => by have := RepL.nil_inv h; subst this; exact RepL.nil_mk
  | k :: ks, cs, h => by
    obtain ⟨c1, c2, rfl, h1, h2⟩ := RepL.cons_inv h
    obtain ⟨rfl, h3⟩ := Rep.lit_inv h1
    exact RepL.cons_mk (Rep.lit_mk h3) (RepL.lits h2)
def Lie (w : World) (A : Option Addr) (n : Nat) (es : List Value) : Prop := n ≠ 0 → ∃ ad, A = some ad ∧ ∀ j (hj : j < es.length), w.cell? (ad.add j) = some es[j]
theorem Lie.ext {w w' : World} {A : Option Addr} {n : Nat} {es : List Value} (h : Lie w A n es) (hs : Same [] w w') : Lie w' A n es := fun hn => by
  obtain ⟨ad, hA, hc⟩ := h hn
  exact ⟨ad, hA, fun j hj => ((FR.start w []).ext hs).cells0 hc j hj⟩
def ClonedC (e m n : Nat) (es : List Value) (w0 : World) (v : Value) (w' : World) : Prop :=
  ∃ A c sb, v = .slice A n c ∧ SlB e m A n c es sb ∧ (∀ p ∈ sb, w'.heap[p.1]? = some p.2 ∧ w0.heap.size ≤ p.1) ∧ Same [] w0 w'
theorem Rep.slice_open {S : Nat → Prop} {w : World} {ds : List D} {A : Option Addr} {n c m : Nat} (h : Rep S w (.slice ds) [.slice A n c]) (hm : ∀ d ∈ ds, sizeOfD d = m) :
    ∃ es, RepL S w ds es ∧ es.length = n * m ∧ Lie w A n es := by
  have hl := h.slice_len
  obtain ⟨A', c', hA, _, _, hr⟩ := Rep.slice_inv h
  simp only [List.cons.injEq, Value.slice.injEq, and_true] at hA
  obtain ⟨rfl, _, _⟩ := hA
  have hsz : ∀ ds : List D, (∀ d ∈ ds, sizeOfD d = m) → sizeOfD.sizeL ds = ds.length * m := by
    intro ds
    induction ds with
    | nil => intro _; simp [sizeOfD.sizeL]
    | cons d ds ih => intro h; rw [sizeOfD.sizeL, h d (by simp), ih (fun x hx => h x (by simp [hx])), List.length_cons, Nat.add_mul]; omega
  by_cases hne : ds = []
  · subst hne
    exact ⟨[], RepL.nil_mk, by simp [hl.1], fun h => absurd hl.1 (by simpa using h)⟩
  · obtain ⟨ad, rfl, es, hc, hr⟩ := hr hne
    exact ⟨es, hr, by rw [hr.length, hsz ds hm, hl.1], fun _ => ⟨ad, rfl, fun j hj => (hc j hj).1⟩⟩
theorem size_strs (ks : List Str) : ∀ d ∈ ks.map strD, sizeOfD d = 1 := fun d hd => by obtain ⟨k, _, rfl⟩ := List.mem_map.1 hd; rfl
theorem size_trees (xs : List Tree) : ∀ d ∈ treesD xs, sizeOfD d = 4 := fun d hd => by rw [treesD_eq] at hd; obtain ⟨k, _, rfl⟩ := List.mem_map.1 hd; exact size_treeD k
theorem FR.sbown {w0 w : World} {pre sb post : List (Nat × Obj)} (h : FR w0 [] (pre ++ (sb ++ post)) w) : ∀ p ∈ sb, w.heap[p.1]? = some p.2 ∧ w0.heap.size ≤ p.1 := fun p hp => by
  have := h.own p (by simp [hp])
  refine ⟨this.1, ?_⟩
  rcases this.2 with h | h
  · exact h
  · cases h
theorem SlB.soft {e m n c : Nat} {A : Option Addr} {es : List Value} {sb : List (Nat × Obj)} {w : World} (h : SlB e m A n c es sb) (hb : ∀ p ∈ sb, w.heap[p.1]? = some p.2) : ∀ p ∈ sb, Soft w p.1 := fun p hp => by
  have h2 : ∃ cur, p = (p.1, .cells cur e) := by
    rcases h.2 with ⟨-, -, rfl⟩ | ⟨g, cur, -, rfl, -⟩
    · cases hp
    · simp only [List.mem_singleton] at hp; subst hp; exact ⟨cur, rfl⟩
  obtain ⟨cur, h2⟩ := h2
  have := hb p hp
  rw [h2] at this
  exact ⟨cur, e, this⟩
theorem SlB.btw {e m n c : Nat} {A : Option Addr} {es : List Value} {sb : List (Nat × Obj)} {w w' : World} {ds : List D} (h : SlB e m A n c es sb) (hb : ∀ p ∈ sb, w'.heap[p.1]? = some p.2 ∧ w.heap.size ≤ p.1) (hr : RepL (Btw w w') w' ds es) (hn : ds.length = n) : Rep (Btw w w') w' (.slice ds) [.slice A n c] :=
  h.repOf (fun p hp => ⟨(hb p hp).1, (hb p hp).2, lt_of_some (hb p hp).1, h.soft (fun p hp => (hb p hp).1) p hp⟩) hr hn
theorem cloned_strs {S : Nat → Prop} {w0 w w' : World} {ks : List Str} {es : List Value} {v : Value} (h : ClonedC 9 1 ks.length es w v w') (hr : RepL S w0 (ks.map strD) es) : ∃ A c, v = .slice A ks.length c ∧ Rep (Btw w w') w' (strsD ks) [.slice A ks.length c] ∧ Same [] w w' := by
  obtain ⟨A, c, sb, rfl, hS, hb, hE⟩ := h
  exact ⟨A, c, rfl, hS.btw hb hr.lits (by simp), hE⟩
set_option maxHeartbeats 1000000 in
set_option maxRecDepth 10000 in
theorem clone22_c (len : Nat) (A : Option Addr) (c : Nat) (es : List Value) (w0 : World) (hel : es.length = len * 1) (hcell : Lie w0 A len es) (ho : ∀ v ∈ es, one v = true) (hb : len ≤ 8796093022208) : Calls Tryz.prog 82 #[.slice A len c] w0 (Ret fun v w' => ClonedC 9 1 len es w0 v w') := by
  refine calls_start Tryz.func82 rfl Tryz.ntmps82 (Nat.le_of_ble_eq_true rfl) (args_1 _) ?_
  have hF := FR.start w0 []
  refine c_seq ?_
  refine c_region ?_
  refine o_val (v := .slice (none) (0) (0)) (x_assign rfl) ?_
  refine o_nil ?_
  refine e_seq ?_
  refine c_seq ?_
  refine c_seq ?_
  refine c_region ?_
  refine o_val (v := .slice (A) (len) (c)) (x_move rfl) ?_
  refine o_val (v := .bool ((A).isNone)) (x_eqlSlNil Tryz.underlying22 rfl rfl) ?_
  refine o_nil ?_
  refine e_seq ?_
  refine c_split (d := 4) (b := (A).isNone) rfl (fun hc0 => ?_) (fun hc0 => ?_)
  ·
    have hA : A = none := by simpa using hc0
    refine c_ift rfl ?_
    refine c_seq ?_
    refine c_region ?_
    refine o_val (v := .slice (none) (0) (0)) (x_assign rfl) ?_
    refine o_nil ?_
    refine e_seq ?_
    refine c_ret (e_ret (post_ret (res_1 (v := .slice (none) (0) (0)) rfl rfl) ?_))
    have h0 : len = 0 := by rcases Nat.eq_zero_or_pos len with h | h; exact h; obtain ⟨ad, hh, _⟩ := hcell (by omega); rw [hA] at hh; cases hh
    have hes : es = [] := List.eq_nil_of_length_eq_zero (by rw [hel, h0, Nat.zero_mul])
    subst hes
    exact ⟨none, 0, [], by rw [h0], by rw [h0]; exact SlB.nil _ _, by simp, hF.same⟩
  ·
    refine c_iff rfl ?_
    refine c_skip ?_
    refine e_seq ?_
    refine c_seq ?_
    refine c_region ?_
    refine o_new (v := fun b => .slice (some ⟨b, 0, none⟩) 0 0) hF (x_buildSlice0 Tryz.underlying22 Tryz.sizeOf9) ?_
    clear hF; intro b1 w hb1 hF hE
    clear hE
    have hS0 : SlB 9 1 (some ⟨b1, 0, none⟩) 0 0 [] [(b1, .cells #[] 9)] := ⟨by simp, .inr ⟨b1, #[], rfl, rfl, Nat.le_refl _, Nat.zero_le _, by simp, by simp⟩⟩
    refine o_val (v := .slice (A) (len) (c)) (x_move rfl) ?_
    refine o_append [] [] (news := es) (len' := 0 + len) (ys := [] ++ es) el_22 hF hS0 rfl rfl (by rw [hel]) (fun hk => by obtain ⟨ad, hA, hc⟩ := hcell hk; exact ⟨ad, hA, cells_opt (hF.cells0 hc)⟩) (ones_eq ho) (by simp only [maxLen]; omega) (rfl) (rfl) (by omega) ?_
    clear hF; intro A0 c0 a_0 w hS0_a hF hE hnew
    clear hE hnew
    refine o_val (v := .slice (A0) (0 + len) (c0)) (x_assign rfl) ?_
    refine o_nil ?_
    refine e_seq ?_
    refine c_ret (e_ret (post_ret (res_1 (v := .slice (A0) (0 + len) (c0)) rfl rfl) ?_))
    simp only [Nat.zero_add, List.nil_append] at *
    exact ⟨_, _, _, rfl, by assumption, hF.sbown (pre := []) (post := []), hF.same⟩
set_option maxHeartbeats 1000000 in
set_option maxRecDepth 10000 in
theorem clone23_c (len : Nat) (A : Option Addr) (c : Nat) (es : List Value) (w0 : World) (hel : es.length = len * 4) (hcell : Lie w0 A len es) (ho : ∀ v ∈ es, one v = true) (hb : len ≤ 1000000000) : Calls Tryz.prog 83 #[.slice A len c] w0 (Ret fun v w' => ClonedC 25 4 len es w0 v w') := by
  refine calls_start Tryz.func83 rfl Tryz.ntmps83 (Nat.le_of_ble_eq_true rfl) (args_1 _) ?_
  have hF := FR.start w0 []
  refine c_seq ?_
  refine c_region ?_
  refine o_val (v := .slice (none) (0) (0)) (x_assign rfl) ?_
  refine o_nil ?_
  refine e_seq ?_
  refine c_seq ?_
  refine c_seq ?_
  refine c_region ?_
  refine o_val (v := .slice (A) (len) (c)) (x_move rfl) ?_
  refine o_val (v := .bool ((A).isNone)) (x_eqlSlNil Tryz.underlying23 rfl rfl) ?_
  refine o_nil ?_
  refine e_seq ?_
  refine c_split (d := 4) (b := (A).isNone) rfl (fun hc0 => ?_) (fun hc0 => ?_)
  ·
    have hA : A = none := by simpa using hc0
    refine c_ift rfl ?_
    refine c_seq ?_
    refine c_region ?_
    refine o_val (v := .slice (none) (0) (0)) (x_assign rfl) ?_
    refine o_nil ?_
    refine e_seq ?_
    refine c_ret (e_ret (post_ret (res_1 (v := .slice (none) (0) (0)) rfl rfl) ?_))
    have h0 : len = 0 := by rcases Nat.eq_zero_or_pos len with h | h; exact h; obtain ⟨ad, hh, _⟩ := hcell (by omega); rw [hA] at hh; cases hh
    have hes : es = [] := List.eq_nil_of_length_eq_zero (by rw [hel, h0, Nat.zero_mul])
    subst hes
    exact ⟨none, 0, [], by rw [h0], by rw [h0]; exact SlB.nil _ _, by simp, hF.same⟩
  ·
    refine c_iff rfl ?_
    refine c_skip ?_
    refine e_seq ?_
    refine c_seq ?_
    refine c_region ?_
    refine o_new (v := fun b => .slice (some ⟨b, 0, none⟩) 0 0) hF (x_buildSlice0 Tryz.underlying23 Tryz.sizeOf25) ?_
    clear hF; intro b1 w hb1 hF hE
    clear hE
    have hS0 : SlB 25 4 (some ⟨b1, 0, none⟩) 0 0 [] [(b1, .cells #[] 25)] := ⟨by simp, .inr ⟨b1, #[], rfl, rfl, Nat.le_refl _, Nat.zero_le _, by simp, by simp⟩⟩
    refine o_val (v := .slice (A) (len) (c)) (x_move rfl) ?_
    refine o_append [] [] (news := es) (len' := 0 + len) (ys := [] ++ es) el_23 hF hS0 rfl rfl (by rw [hel]) (fun hk => by obtain ⟨ad, hA, hc⟩ := hcell hk; exact ⟨ad, hA, cells_opt (hF.cells0 hc)⟩) (ones_eq ho) (by simp only [maxLen]; omega) (rfl) (rfl) (by omega) ?_
    clear hF; intro A0 c0 a_0 w hS0_a hF hE hnew
    clear hE hnew
    refine o_val (v := .slice (A0) (0 + len) (c0)) (x_assign rfl) ?_
    refine o_nil ?_
    refine e_seq ?_
    refine c_ret (e_ret (post_ret (res_1 (v := .slice (A0) (0 + len) (c0)) rfl rfl) ?_))
    simp only [Nat.zero_add, List.nil_append] at *
    exact ⟨_, _, _, rfl, by assumption, hF.sbown (pre := []) (post := []), hF.same⟩
def NewC (F : Nat) (args : Array Value) (d : D) (w0 : World) : Prop := Calls Tryz.prog F args w0 (Ret fun v w' => ∃ ct : List Value, v = .agg ct.toArray ∧ Rep (Btw w0 w') w' d ct ∧ Same [] w0 w')
def CloneC (x : Tree) : Prop := ∀ S w0 cs, Rep S w0 (treeD x) cs → sizeT x ≤ 1000000000 → (keysT x ≤ 8796093022208) → NewC 57 #[.agg cs.toArray] (treeD x) w0
set_option maxHeartbeats 4000000 in
set_option maxRecDepth 10000 in
theorem clone_step (k : Int) (t : Str) (ks : List Str) (xs : List Tree) (ih : ∀ x, x ∈ xs → CloneC x) : CloneC (.node k t ks xs) := by
  intro S w0 cs hR hsz hky
  rw [sizeT] at hsz
  rw [keysT] at hky
  have hxn := sizeTs_len xs
  obtain ⟨A, c, B, e, rfl, hk, ht, hK, hX⟩ := hR.tree_inv
  obtain ⟨eK, hrK, hKl, hKc⟩ := hK.slice_open (size_strs ks)
  obtain ⟨eX, hrX, hXl, hXc⟩ := hX.slice_open (size_trees xs)
  refine calls_start Tryz.func57 rfl Tryz.ntmps57 (Nat.le_of_ble_eq_true rfl) (args_1 _) ?_
  have hF := FR.start w0 []
  refine c_seq ?_
  refine c_region ?_
  refine o_box (v := .agg #[.int .i64 (k), .string (bs (t)), .slice (A) (ks.length) (c), .slice (B) (xs.length) (e)]) (cs := #[.int .i64 (k), .string (bs (t)), .slice (A) (ks.length) (c), .slice (B) (xs.length) (e)]) hF rfl rfl ?_
  clear hF; intro b1 w hb1 hF hE
  clear hE
  refine o_alloc (cs := #[.int .i64 (0), .string (bs ([])), .slice (none) (0) (0), .slice (none) (0) (0)]) hF Tryz.zeroValue25 rfl ?_
  clear hF; intro b2 w hb2 hF hE
  clear hE
  refine o_nil ?_
  refine e_seq ?_
  refine c_seq ?_
  refine c_drawF [9, 7] (.free 0 (.free 1 (.free 3 (.free 4 (.act 2 (.free 6 (.act 5 (.act 7 (.free 8 (.act 9 .nil)))))))))) (by kernel_rfl) hF (by kernel_rfl) (by kernel_rfl) ?_
  clear hF; intro w hF hE
  clear hE
  refine ⟨fun wq => FR w0 [] [(b2, .cells #[.int .i64 (0), .string (bs ([])), .slice (none) (0) (0), .slice (none) (0) (0)] 25), (b1, .cells #[.int .i64 (k), .string (bs (t)), .slice (A) (ks.length) (c), .slice (B) (xs.length) (e)] 25)] wq, hF, ?_⟩
  refine f_free rfl (v := .pointer (some ⟨b1, 2, none⟩)) (fun w hC => x_fieldAddrO fa_25_2 rfl) ?_
  refine f_free rfl (v := .slice (A) (ks.length) (c)) (fun w hC => x_load Tryz.isAgg22 rfl (hC.cell 1 rfl rfl)) ?_
  refine f_free rfl (v := .pointer (some ⟨b1, 3, none⟩)) (fun w hC => x_fieldAddrO fa_25_3 rfl) ?_
  refine f_free rfl (v := .slice (B) (xs.length) (e)) (fun w hC => x_load Tryz.isAgg23 rfl (hC.cell 1 rfl rfl)) ?_
  refine f_call rfl (clone22_c ks.length A c eK _ hKl (Lie.ext hKc hF.same) hrK.one_ (by omega)) (x_call1 en_82 rfl rfl) ?_
  rintro _ w hcl
  obtain ⟨A1, c1, rfl, hK1, hE⟩ := cloned_strs hcl hrK
  have hKX := RX.made (ids := [b2, b1]) hF.same.size (fun x hx => hF.lt_ids (by grind)) hK1
  replace hF := hF.ext hE
  clear hE hcl hK1
  refine ⟨hF, ?_⟩
  refine f_free rfl (v := .pointer (some ⟨b1, 2, none⟩)) (fun w hC => x_fieldAddrO fa_25_2 rfl) ?_
  refine f_call rfl (clone23_c xs.length B e eX _ hXl (Lie.ext hXc hF.same) hrX.one_ (by omega)) (x_call1 en_83 rfl rfl) ?_
  rintro _ w ⟨A2, c2, sb2, rfl, hS2, hh2, hE⟩
  replace hKX := hKX.step (ids' := [b2, b1] ++ sb2.map (·.1)) hE (by simp) (fun x hx => by rcases List.mem_append.1 hx with hx | hx; exact .inl hx; obtain ⟨p, hp, rfl⟩ := List.mem_map.1 hx; exact .inr (hh2 p hp).2)
  replace hF := hF.extseg hE hh2 hS2.pw
  clear hE
  refine ⟨hF.sub (.cons_cons _ (.cons_cons _ (List.nil_sublist _))), ?_⟩
  refine f_storez rfl 1 (l := [.slice (A1) (ks.length) (c1)]) (cs' := #[.int .i64 (k), .string (bs (t)), .slice (A1) (ks.length) (c1), .slice (B) (xs.length) (e)]) hF Tryz.sizeOf22 rfl (v := .slice (A1) (ks.length) (c1)) rfl rfl (by simp [one]) rfl (Nat.le_of_ble_eq_true rfl) rfl ?_
  clear hF; intro w hF hE
  replace hKX := hKX.store hE (by grind)
  clear hE
  replace hF : FR w0 [] ([(b2, .cells #[.int .i64 (0), .string (bs ([])), .slice (none) (0) (0), .slice (none) (0) (0)] 25), (b1, .cells #[.int .i64 (k), .string (bs (t)), .slice (A1) (ks.length) (c1), .slice (B) (xs.length) (e)] 25)] ++ (sb2 ++ [])) w := hF
  refine f_free rfl (v := .pointer (some ⟨b1, 3, none⟩)) (fun w hC => x_fieldAddrO fa_25_3 rfl) ?_
  refine f_storez rfl 1 (l := [.slice (A2) (xs.length) (c2)]) (cs' := #[.int .i64 (k), .string (bs (t)), .slice (A1) (ks.length) (c1), .slice (A2) (xs.length) (c2)]) hF Tryz.sizeOf23 rfl (v := .slice (A2) (xs.length) (c2)) rfl rfl (by simp [one]) rfl (Nat.le_of_ble_eq_true rfl) rfl ?_
  clear hF; intro w hF hE
  replace hKX := hKX.store hE (by grind)
  clear hE
  replace hF : FR w0 [] ([(b2, .cells #[.int .i64 (0), .string (bs ([])), .slice (none) (0) (0), .slice (none) (0) (0)] 25), (b1, .cells #[.int .i64 (k), .string (bs (t)), .slice (A1) (ks.length) (c1), .slice (A2) (xs.length) (c2)] 25)] ++ (sb2 ++ [])) w := hF
  refine d_nil ?_
  refine e_seq ?_
  refine c_seq ?_
  refine c_seq ?_
  refine c_region ?_
  refine o_val (v := .pointer (some ⟨b1, 3, none⟩)) (x_fieldAddrO fa_25_3 rfl) ?_
  refine o_val (v := .slice (A2) (xs.length) (c2)) (x_load Tryz.isAgg23 rfl (hF.cell 1 rfl rfl)) ?_
  refine o_val (v := .int .i64 ((xs.length : Nat))) (x_len_slice Tryz.underlying23 rfl) ?_
  refine o_val (v := .int .i64 (0)) (x_move rfl) ?_
  refine o_nil ?_
  refine e_seq ?_
  refine c_block ?_
  refine c_loop (fun μ σ w => ∃ (j : Nat), ∃ (dn : List Value), ∃ (rs : List Value), ∃ (sb : List (Nat × Obj)), μ = xs.length - j ∧ (j ≤ xs.length) ∧ (SlB 25 4 A2 xs.length c2 (dn ++ rs) sb) ∧ (dn.length = j * 4) ∧ (RepL S w0 (treesD (xs.drop j)) rs) ∧ (RX w0 ([b2, b1] ++ sb.map (·.1)) w (treesD (xs.take j)) dn) ∧ (RX w0 ([b2, b1] ++ sb.map (·.1)) w [strsD ks] [.slice A1 ks.length c1]) ∧ AllEq σ [(1, .pointer (some ⟨b1, 0, none⟩)), (2, .pointer (some ⟨b2, 0, none⟩)), (14, .slice (A2) (xs.length) (c2)), (15, .int .i64 ((xs.length : Nat))), (16, .int .i64 ((j : Int)))] ∧ FR w0 [] ([(b2, .cells #[.int .i64 (0), .string (bs ([])), .slice (none) (0) (0), .slice (none) (0) (0)] 25), (b1, .cells #[.int .i64 (k), .string (bs (t)), .slice (A1) (ks.length) (c1), .slice (A2) (xs.length) (c2)] 25)] ++ (sb ++ [])) w) _ ⟨0, [], eX, sb2, rfl, (Nat.zero_le _), (hS2), (rfl), (by simpa using hrX), (RX.nil), (hKX), ⟨rfl, rfl, rfl, rfl, rfl, trivial⟩, hF⟩ ?_
  clear hF; rintro μ σ w ⟨j, dn, rs, sb, rfl, hj, hS, hd, hrr, hDX, hKX, hs, hF⟩
  refine Cg.slots hs ?_
  clear hs; intro σ
  refine c_seq ?_
  refine c_region ?_
  refine o_val (v := .bool (decide (((j : Int) : Int) < ((xs.length : Nat) : Int)))) (x_lss rfl rfl) ?_
  refine o_nil ?_
  refine e_seq ?_
  refine c_seq ?_
  refine c_splitd (d := 17) (p := ((j : Int) : Int) < ((xs.length : Nat) : Int)) rfl (fun hc0 => ?_) (fun hc0 => ?_)
  ·
    refine c_ift rfl ?_
    refine c_skip ?_
    refine e_seq ?_
    refine c_seq ?_
    refine c_block ?_
    refine c_seq ?_
    refine c_region ?_
    refine o_val (v := .int .i64 ((j : Int))) (x_move rfl) ?_
    have hjx : j < xs.length := by omega
    rw [treesD_drop hjx] at hrr
    obtain ⟨c1_, c2_, rfl, hr1, hr2⟩ := RepL.cons_inv hrr
    have hl1 : c1_.length = 4 := hr1.length.trans (size_treeD _)
    have ho1 := hr1.one_
    obtain ⟨ad0, hA0, hk0⟩ := hS.elemMid (pre := [(b2, .cells #[.int .i64 (0), .string (bs ([])), .slice (none) (0) (0), .slice (none) (0) (0)] 25), (b1, .cells #[.int .i64 (k), .string (bs (t)), .slice (A1) (ks.length) (c1), .slice (A2) (xs.length) (c2)] 25)]) (post := []) (pr := dn) (mid := c1_) (po := c2_) hF (j := j) hd hl1 (hjx)
    refine o_val (v := .pointer (some (ad0.add (j * 4)))) (x_indexAddrA (i := (j : Int)) sl_23 rfl hA0 rfl (by omega) (by omega)) ?_
    refine o_val (v := .agg (List.toArray c1_)) (x_loadS (l := c1_) Tryz.isAgg25 Tryz.sizeOf25 rfl hl1 hk0) ?_
    refine o_alloc (cs := #[.int .i64 (0), .string (bs ([])), .slice (none) (0) (0), .slice (none) (0) (0)]) hF Tryz.zeroValue25 rfl ?_
    clear hF; intro b3 w hb3 hF hE
    replace hKX := hKX.alloc hE hb3
    replace hDX := hDX.alloc hE hb3
    clear hE
    refine o_val (v := .int .i64 ((j : Int))) (x_assign rfl) ?_
    refine o_store 0 (l := c1_) (cs' := (List.toArray c1_)) hF (by rw [hl1]; exact Tryz.sizeOf25) rfl (v := .agg (List.toArray c1_)) rfl rfl (ho1) rfl (by rw [hl1]; exact Nat.le_of_ble_eq_true rfl) (putA_all (by rw [hl1]; rfl)) ?_
    clear hF; intro w hF hE
    replace hKX := hKX.store hE (by grind)
    replace hDX := hDX.store hE (by grind)
    clear hE
    replace hF : FR w0 [] ([(b3, .cells (List.toArray c1_) 25), (b2, .cells #[.int .i64 (0), .string (bs ([])), .slice (none) (0) (0), .slice (none) (0) (0)] 25), (b1, .cells #[.int .i64 (k), .string (bs (t)), .slice (A1) (ks.length) (c1), .slice (A2) (xs.length) (c2)] 25)] ++ (sb ++ [])) w := hF
    refine o_nil ?_
    refine e_seq ?_
    refine c_drawF [6] (.free 0 (.free 1 (.free 2 (.free 3 (.act 4 (.free 5 (.act 6 .nil))))))) (by kernel_rfl) hF (by kernel_rfl) (by kernel_rfl) ?_
    clear hF; intro w hF hE
    replace hKX := hKX.ext hE
    replace hDX := hDX.ext hE
    clear hE
    refine ⟨fun wq => FR w0 [] [(b3, .cells (List.toArray c1_) 25), (b2, .cells #[.int .i64 (0), .string (bs ([])), .slice (none) (0) (0), .slice (none) (0) (0)] 25), (b1, .cells #[.int .i64 (k), .string (bs (t)), .slice (A1) (ks.length) (c1), .slice (A2) (xs.length) (c2)] 25)] wq, hF.sub (.cons_cons _ (.cons_cons _ (.cons_cons _ (List.nil_sublist _)))), ?_⟩
    refine f_free rfl (v := .pointer (some ⟨b1, 3, none⟩)) (fun w hC => x_fieldAddrO fa_25_3 rfl) ?_
    refine f_free rfl (v := .slice (A2) (xs.length) (c2)) (fun w hC => x_load Tryz.isAgg23 rfl (hC.cell 2 rfl rfl)) ?_
    refine f_free rfl (v := .int .i64 ((j : Int))) (fun w hC => x_move rfl) ?_
    refine f_free rfl (v := .agg (List.toArray c1_)) (fun w hC => x_loadS (l := c1_) Tryz.isAgg25 Tryz.sizeOf25 rfl hl1 (hC.cellsAll 0 rfl)) ?_
    refine f_call rfl (ih xs[j] (List.getElem_mem hjx) S _ c1_ (hF.rep hr1) (by have := sizeTs_mem (List.getElem_mem hjx); omega) (by have := keysTs_mem (List.getElem_mem hjx); omega)) (x_call1 en_57 rfl rfl) ?_
    rintro _ w ⟨ct, rfl, hRt, hE⟩
    have hlt : ct.length = 4 := hRt.length.trans (size_treeD _)
    have hot := hRt.one_
    have hYX := RX.made (ids := b3 :: ([b2, b1] ++ sb.map (·.1))) hF.same.size (fun x hx => hF.lt_ids (by grind)) hRt
    replace hKX := hKX.ext hE
    replace hDX := (hDX.ext hE).append hYX
    replace hF := hF.ext hE
    clear hE hYX
    refine ⟨hF.sub (.cons_cons _ (.cons_cons _ (.cons_cons _ (List.nil_sublist _)))), ?_⟩
    obtain ⟨ad1, hA1, hk1⟩ := hS.elemMid (pre := [(b3, .cells (List.toArray c1_) 25), (b2, .cells #[.int .i64 (0), .string (bs ([])), .slice (none) (0) (0), .slice (none) (0) (0)] 25), (b1, .cells #[.int .i64 (k), .string (bs (t)), .slice (A1) (ks.length) (c1), .slice (A2) (xs.length) (c2)] 25)]) (post := []) (pr := dn) (mid := c1_) (po := c2_) hF (j := j) hd hl1 (hjx)
    refine f_free rfl (v := .pointer (some (ad1.add (j * 4)))) (fun w hC => x_indexAddrA (i := (j : Int)) sl_23 rfl hA1 rfl (by omega) (by omega)) ?_
    refine f_storeSl [(b3, .cells (List.toArray c1_) 25), (b2, .cells #[.int .i64 (0), .string (bs ([])), .slice (none) (0) (0), .slice (none) (0) (0)] 25), (b1, .cells #[.int .i64 (k), .string (bs (t)), .slice (A1) (ks.length) (c1), .slice (A2) (xs.length) (c2)] 25)] [] rfl hF (pr := dn) (mid := c1_) (po := c2_) (new := ct) (j := j) hS hd hl1 hA1 (hjx) Tryz.sizeOf25 rfl (v := .agg (List.toArray ct)) rfl rfl hlt hot ?_
    clear hF; intro i_2 w hS2_i hF hE hids
    replace hKX := hKX.store hE (by grind)
    replace hDX := hDX.store hE (by grind)
    clear hE
    refine d_nil ?_
    refine e_block ?_
    refine e_seq ?_
    refine c_region ?_
    refine o_val (v := .int .i64 (((j : Int) : Int) + 1)) (x_add rfl rfl (wrap_id (by omega) (by omega))) ?_
    refine o_val (v := .int .i64 (((j : Int) : Int) + 1)) (x_move rfl) ?_
    refine o_nil ?_
    refine e_inv ⟨_, ?_, j + 1, dn ++ ct, c2_, i_2, rfl, (hjx), (by simpa using hS2_i), (by rw [List.length_append, hd, hlt]; omega), (hr2), (by rw [treesD_take hjx, hids]; exact hDX.sub (fun x hx => List.mem_cons_of_mem _ hx)), (by rw [hids]; exact hKX.sub (fun x hx => List.mem_cons_of_mem _ hx)), ⟨rfl, rfl, rfl, rfl, rfl, trivial⟩, hF.drop 1⟩
    omega
  ·
    refine c_iff rfl ?_
    refine c_exit (e_exit rfl ?_)
    refine e_seq ?_
    refine c_seq ?_
    refine c_region ?_
    refine o_val (v := .agg #[.int .i64 (k), .string (bs (t)), .slice (A1) (ks.length) (c1), .slice (A2) (xs.length) (c2)]) (x_loadS (l := [.int .i64 (k), .string (bs (t)), .slice (A1) (ks.length) (c1), .slice (A2) (xs.length) (c2)]) Tryz.isAgg25 Tryz.sizeOf25 rfl rfl (hF.cellsAll 1 rfl)) ?_
    refine o_store 0 (l := [.int .i64 (k), .string (bs (t)), .slice (A1) (ks.length) (c1), .slice (A2) (xs.length) (c2)]) (cs' := #[.int .i64 (k), .string (bs (t)), .slice (A1) (ks.length) (c1), .slice (A2) (xs.length) (c2)]) hF Tryz.sizeOf25 rfl (v := .agg #[.int .i64 (k), .string (bs (t)), .slice (A1) (ks.length) (c1), .slice (A2) (xs.length) (c2)]) rfl rfl (by simp [one]) rfl (Nat.le_of_ble_eq_true rfl) rfl ?_
    clear hF; intro w hF hE
    replace hKX := hKX.store hE (by grind)
    replace hDX := hDX.store hE (by grind)
    clear hE
    replace hF : FR w0 [] ([(b2, .cells #[.int .i64 (k), .string (bs (t)), .slice (A1) (ks.length) (c1), .slice (A2) (xs.length) (c2)] 25), (b1, .cells #[.int .i64 (k), .string (bs (t)), .slice (A1) (ks.length) (c1), .slice (A2) (xs.length) (c2)] 25)] ++ (sb ++ [])) w := hF
    refine o_nil ?_
    refine e_seq ?_
    refine c_ret (e_ret (post_ret (res_c rfl (l := [.int .i64 (k), .string (bs (t)), .slice (A1) (ks.length) (c1), .slice (A2) (xs.length) (c2)]) rfl Tryz.isAgg25 Tryz.sizeOf25 rfl (hF.cellsAll 0 rfl)) ?_))
    have ej : j = xs.length := by omega
    subst ej
    rw [List.take_length] at hDX
    have e0 : rs = [] := by rw [List.drop_length] at hrr; exact RepL.nil_inv hrr
    subst e0
    rw [List.append_nil] at hS
    refine ⟨_, rfl, ?_, hF.same⟩
    exact Rep.tree_mk hk ht hKX.done (hS.rep (pre := [_, _]) (post := []) hF hDX (by simp))
theorem clone_c (x : Tree) : CloneC x := Tree.ind clone_step x
end Go.Scarf
