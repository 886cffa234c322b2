/- A part of the proof. -/
import Derived.Test.YtpliibolgknenaaGreatDoorZ15
import Derived.Test.YtpliibolgknenaaGreatDoorZ4
set_option linter.all false
namespace Go.Scarf
open Go.RowKit Go.Proofs
def gx (n m i k j l : Nat) : Nat := ((i * (n + 1) + k) * (m + 1) + j) * (m + 1) + l
theorem gx_inj {n m i k j l i' k' j' l' : Nat} (hk : k ≤ n) (hj : j ≤ m) (hl : l ≤ m) (hk' : k' ≤ n) (hj' : j' ≤ m) (hl' : l' ≤ m) (h : gx n m i k j l = gx n m i' k' j' l') : i = i' ∧ k = k' ∧ j = j' ∧ l = l' := by
  have h1 : gi m ((i * (n + 1) + k) * (m + 1) + j) l = gi m ((i' * (n + 1) + k') * (m + 1) + j') l' := h
  obtain ⟨h2, rfl⟩ := gi_inj hl hl' h1
  have h3 : gi m (i * (n + 1) + k) j = gi m (i' * (n + 1) + k') j' := h2
  obtain ⟨h4, rfl⟩ := gi_inj hj hj' h3
  have h5 : gi n i k = gi n i' k' := h4
  obtain ⟨rfl, rfl⟩ := gi_inj hk hk' h5
  exact ⟨rfl, rfl, rfl, rfl⟩
theorem gx_lt {n m i k j l : Nat} (hi : i ≤ n) (hk : k ≤ n) (hj : j ≤ m) (hl : l ≤ m) : gx n m i k j l < (n + 1) * (n + 1) * (m + 1) * (m + 1) := by
  have h1 := gi_lt (m := n) (n := n) (p := i) (q := k) hi hk
  have h2 : gi m (gi n i k) j < (n + 1) * (n + 1) * (m + 1) := by
    have := gi_lt (m := m) (n := (n + 1) * (n + 1) - 1) (p := gi n i k) (q := j) (by omega) hj
    rwa [Nat.sub_add_cancel (by omega)] at this
  have := gi_lt (m := m) (n := (n + 1) * (n + 1) * (m + 1) - 1) (p := gi m (gi n i k) j) (q := l) (by omega) hl
  rw [Nat.sub_add_cancel (by omega)] at this
  exact this
theorem gx_max {n m : Nat} (hn : n ≤ 80) (hm : m ≤ 80) : (n + 1) * (n + 1) * (m + 1) * (m + 1) ≤ 43046721 :=
  Nat.le_trans (Nat.mul_le_mul (Nat.mul_le_mul (Nat.mul_le_mul (Nat.succ_le_succ hn) (Nat.succ_le_succ hn)) (Nat.succ_le_succ hm)) (Nat.succ_le_succ hm)) (by decide)
def boolsA (N : Nat) (f : Nat → Bool) : Array Value := ((List.range N).map fun k => Value.bool (f k)).toArray
theorem boolsA_get {N k : Nat} {f : Nat → Bool} (h : k < N) : (boolsA N f)[k]? = some (.bool (f k)) := by simp [boolsA, h]
def setB (f : Nat → Bool) (k : Nat) : Nat → Bool := fun x => if x = k then true else f x
theorem boolsA_put {N k : Nat} {f : Nat → Bool} : putA (boolsA N f) k [.bool true] = boolsA N (setB f k) := by
  rw [putA, putA]
  apply Array.ext
  · simp [boolsA]
  · intro i h1 h2
    rw [Array.getElem_setIfInBounds (by simpa using h1)]
    by_cases e : k = i
    · subst e; simp [boolsA, setB]
    · have e' : ¬ i = k := fun h => e h.symm
      simp [boolsA, setB, e, e']
theorem boolsA_zero (N : Nat) : (List.replicate N (Value.bool false)).toArray = boolsA N fun _ => false := by
  apply Array.ext
  · simp [boolsA]
  · intro i h1 h2
    simp [boolsA]
def Sb (N0 hb cb : Nat) (b : Nat) : Prop := b < N0 ∧ b ≠ hb ∧ b ≠ cb
structure Tk (w : World) (N0 tb hb cb : Nat) (la : List Str) (fa : List Int) (lb : List Str) (fb : List Int) (Aa Ba Ab Bb : Option Addr) (k1 k2 k3 k4 : Nat) (N : Nat) (h : Nat → Bool) (f : Nat → Int) : Prop where
  cell : w.heap[tb]? = some (.cells #[.slice Aa la.length k1, .slice Ba fa.length k2, .slice Ab lb.length k3, .slice Bb fb.length k4, .int .i64 (la.length : Nat), .int .i64 (lb.length : Nat), .slice (some ⟨hb, 0, none⟩) N N, .slice (some ⟨cb, 0, none⟩) N N] 87)
  La : Rep (Sb N0 hb cb) w (strsD la) [.slice Aa la.length k1]
  Na : Rep (Sb N0 hb cb) w (.slice (fa.map intD)) [.slice Ba fa.length k2]
  Lb : Rep (Sb N0 hb cb) w (strsD lb) [.slice Ab lb.length k3]
  Nb : Rep (Sb N0 hb cb) w (.slice (fb.map intD)) [.slice Bb fb.length k4]
  had : w.heap[hb]? = some (.cells (boolsA N h) 4)
  cost : w.heap[cb]? = some (.cells (intsA N f) 3)
  ne : tb ≠ hb ∧ tb ≠ cb ∧ hb ≠ cb
  lt : tb < N0 ∧ hb < N0 ∧ cb < N0
section
variable {w w' : World} {N0 tb hb cb : Nat} {la lb : List Str} {fa fb : List Int} {Aa Ba Ab Bb : Option Addr} {k1 k2 k3 k4 N : Nat} {h : Nat → Bool} {f : Nat → Int} {E : List Nat}
theorem Tk.ext (H : Tk w N0 tb hb cb la fa lb fb Aa Ba Ab Bb k1 k2 k3 k4 N h f) (hs : Same [] w w') : Tk w' N0 tb hb cb la fa lb fb Aa Ba Ab Bb k1 k2 k3 k4 N h f :=
  ⟨(hs.block _ (lt_of_some H.cell) (by simp)).trans H.cell, H.La.ext hs, H.Na.ext hs, H.Lb.ext hs, H.Nb.ext hs, (hs.block _ (lt_of_some H.had) (by simp)).trans H.had, (hs.block _ (lt_of_some H.cost) (by simp)).trans H.cost, H.ne, H.lt⟩
theorem Tk.putH (H : Tk w N0 tb hb cb la fa lb fb Aa Ba Ab Bb k1 k2 k3 k4 N h f) {h' : Nat → Bool} (hs : Same [hb] w w') (hn : w'.heap[hb]? = some (.cells (boolsA N h') 4)) : Tk w' N0 tb hb cb la fa lb fb Aa Ba Ab Bb k1 k2 k3 k4 N h' f := by
  have ns : ∀ b ∈ [hb], ¬ Sb N0 hb cb b := fun b hb h2 => h2.2.1 (List.mem_singleton.1 hb)
  exact ⟨(hs.block _ (lt_of_some H.cell) (by simpa using H.ne.1)).trans H.cell, H.La.same hs ns, H.Na.same hs ns, H.Lb.same hs ns, H.Nb.same hs ns, hn, (hs.block _ (lt_of_some H.cost) (by simpa using fun e => H.ne.2.2 e.symm)).trans H.cost, H.ne, H.lt⟩
theorem Tk.putC (H : Tk w N0 tb hb cb la fa lb fb Aa Ba Ab Bb k1 k2 k3 k4 N h f) {f' : Nat → Int} (hs : Same [cb] w w') (hn : w'.heap[cb]? = some (.cells (intsA N f') 3)) : Tk w' N0 tb hb cb la fa lb fb Aa Ba Ab Bb k1 k2 k3 k4 N h f' := by
  have ns : ∀ b ∈ [cb], ¬ Sb N0 hb cb b := fun b hb h2 => h2.2.2 (List.mem_singleton.1 hb)
  exact ⟨(hs.block _ (lt_of_some H.cell) (by simpa using H.ne.2.1)).trans H.cell, H.La.same hs ns, H.Na.same hs ns, H.Lb.same hs ns, H.Nb.same hs ns, (hs.block _ (lt_of_some H.had) (by simpa using H.ne.2.2)).trans H.had, hn, H.ne, H.lt⟩
theorem Tk.at (H : Tk w N0 tb hb cb la fa lb fb Aa Ba Ab Bb k1 k2 k3 k4 N h f) (q : Nat) {v : Value} (hv : #[Value.slice Aa la.length k1, .slice Ba fa.length k2, .slice Ab lb.length k3, .slice Bb fb.length k4, .int .i64 (la.length : Nat), .int .i64 (lb.length : Nat), .slice (some ⟨hb, 0, none⟩) N N, .slice (some ⟨cb, 0, none⟩) N N][q]? = some v) : w.cell? ⟨tb, q, none⟩ = some v := by
  rw [cell_of_heap H.cell q]; exact hv
end
def HadOk (A B : Nodes) (n m : Nat) (h : Nat → Bool) (f : Nat → Int) : Prop := ∀ i k j l, i ≤ n → k ≤ n → j ≤ m → l ≤ m → h (gx n m i k j l) = true → f (gx n m i k j l) = ((fd A B i k j l : Nat) : Int)
theorem HadOk.put {A B : Nodes} {n m i k j l : Nat} {h : Nat → Bool} {f : Nat → Int} (H : HadOk A B n m h f) (hk : k ≤ n) (hj : j ≤ m) (hl : l ≤ m) {b : Int} (hb : b = ((fd A B i k j l : Nat) : Int)) : HadOk A B n m (setB h (gx n m i k j l)) (setF f (gx n m i k j l) b) := by
  intro i' k' j' l' hi' hk' hj' hl' ht
  by_cases e : gx n m i' k' j' l' = gx n m i k j l
  · obtain ⟨rfl, rfl, rfl, rfl⟩ := gx_inj hk' hj' hl' hk hj hl e
    rw [setF_at]; exact hb
  · rw [setF_ne e]
    refine H i' k' j' l' hi' hk' hj' hl' ?_
    unfold setB at ht
    rwa [if_neg e] at ht
theorem o_storeB {P : Program} {R : Exit → Act → World → Prop} {n : Nat} {k : Kt} {s : Nat → Value} {w : World} {ops rest : List Oper} {ty : TypeId} {pos : String} {aft : Array Edge} {g : Option (Nat × Bool)} {w0 : World} {Ds : List Nat} {bs : List (Nat × Obj)} {t T : TypeId} {x y : Operand} {b j m : Nat} {f : Nat → Bool} (hF : FR w0 Ds bs w) (hs : ∀ w, (sizeOf t).run P w = .ok 1 w)
    (hx : ev n s x = .pointer (some ⟨b, j, none⟩)) (hy : ev n s y = .bool true) (hh : w.heap[b]? = some (.cells (boolsA m f) T)) (hj : j < m) (hD : b ∈ Ds) (hn : ∀ p ∈ bs, p.1 ≠ b)
    (h : ∀ w', FR w0 Ds bs w' → Same [b] w w' → w'.heap[b]? = some (.cells (boolsA m (setB f j)) T) → Og P R n ops k rest s w')
    (hw : wantedB ops n s ⟨none, .store t x y, ty, pos, aft, g⟩ = true := by rfl) : Og P R n ops k (⟨none, .store t x y, ty, pos, aft, g⟩ :: rest) s w := by
  have hsp := putCells_spec b j (fz := (0, 0)) [.bool true] 0 w (boolsA m f) hh
  rw [Nat.add_zero, boolsA_put] at hsp
  refine o_unit (x_store (l := [.bool true]) hs hx hy rfl (by simp [one]) fun i hi => ?_) (h (putCells w ⟨b, j, none⟩ 0 [.bool true]) (hF.touch hsp.2 fun b' hb => ?_) hsp.2 hsp.1) hw
  · obtain rfl : i = 0 := by simp at hi; omega
    rw [add_zero_, cell_of_heap hh]
    exact ⟨⟨_, boolsA_get hj⟩, frozen_of_heap hh _⟩
  · obtain rfl := List.mem_singleton.1 hb
    exact ⟨fun _ => hD, hn⟩
def BtC (N0 tb hb cb : Nat) (la : List Str) (fa : List Int) (lb : List Str) (fb : List Int) (Aa Ba Ab Bb : Option Addr) (k1 k2 k3 k4 N : Nat) (i k j l : Nat) : Prop := ∀ (w0 : World) (h : Nat → Bool) (f : Nat → Int), N0 ≤ w0.heap.size → Tk w0 N0 tb hb cb la fa lb fb Aa Ba Ab Bb k1 k2 k3 k4 N h f → HadOk (nodesT la fa) (nodesT lb fb) la.length lb.length h f → Calls Tryz.prog 36 #[.pointer (some ⟨tb, 0, none⟩), .int .i64 ((i : Nat) : Int), .int .i64 ((k : Nat) : Int), .int .i64 ((j : Nat) : Int), .int .i64 ((l : Nat) : Int)] w0 (Ret fun v w' => ∃ (h' : Nat → Bool) (f' : Nat → Int), v = .int .i64 ((fd (nodesT la fa) (nodesT lb fb) i k j l : Nat) : Int) ∧ Tk w' N0 tb hb cb la fa lb fb Aa Ba Ab Bb k1 k2 k3 k4 N h' f' ∧ HadOk (nodesT la fa) (nodesT lb fb) la.length lb.length h' f' ∧ Same [hb, cb] w0 w')
theorem x_maxE {P : Program} {w : World} {ρ : Operand → Value} {dst : Option Nat} {ty : TypeId} {pos : String} {aft : Array Edge} {g : Option (Nat × Bool)} {x y : Operand} {ats : Array TypeId} {k : IntKind} {a b c : Int} (hx : ρ x = .int k a) (hy : ρ y = .int k b) (h : max a b = c) : (execOp ρ ⟨dst, .call ⟨.builtin .max, #[x, y], ats⟩, ty, pos, aft, g⟩).run P w = .ok (.value (.int k c)) w := h ▸ x_max hx hy
set_option maxHeartbeats 8000000 in
set_option maxRecDepth 10000 in
theorem between_step (N0 tb hb cb : Nat) (la : List Str) (fa : List Int) (lb : List Str) (fb : List Int) (Aa Ba Ab Bb : Option Addr) (k1 k2 k3 k4 N : Nat) (hN : N = (la.length + 1) * (la.length + 1) * (lb.length + 1) * (lb.length + 1)) (hNm : N ≤ 43046721) (hka : la.length = fa.length) (hkb : lb.length = fb.length) (hoa : lfOk fa fa.length) (hob : lfOk fb fb.length) (hn5 : la.length ≤ 512) (hm5 : lb.length ≤ 512) (i k j l : Nat) (hik : i ≤ k) (hkn : k ≤ la.length) (hjl : j ≤ l) (hlm : l ≤ lb.length) (ih : ∀ i' k' j' l', (k' - i') + (l' - j') < (k - i) + (l - j) → i' ≤ k' → k' ≤ la.length → j' ≤ l' → l' ≤ lb.length → BtC N0 tb hb cb la fa lb fb Aa Ba Ab Bb k1 k2 k3 k4 N i' k' j' l') (w0 : World) (h : Nat → Bool) (f : Nat → Int) (hN0 : N0 ≤ w0.heap.size) (hT : Tk w0 N0 tb hb cb la fa lb fb Aa Ba Ab Bb k1 k2 k3 k4 N h f) (hH : HadOk (nodesT la fa) (nodesT lb fb) la.length lb.length h f) : Calls Tryz.prog 36 #[.pointer (some ⟨tb, 0, none⟩), .int .i64 ((i : Nat) : Int), .int .i64 ((k : Nat) : Int), .int .i64 ((j : Nat) : Int), .int .i64 ((l : Nat) : Int)] w0 (Ret fun v w' => ∃ (h' : Nat → Bool) (f' : Nat → Int), v = .int .i64 ((fd (nodesT la fa) (nodesT lb fb) i k j l : Nat) : Int) ∧ Tk w' N0 tb hb cb la fa lb fb Aa Ba Ab Bb k1 k2 k3 k4 N h' f' ∧ HadOk (nodesT la fa) (nodesT lb fb) la.length lb.length h' f' ∧ Same [hb, cb] w0 w') := by
 refine calls_start Tryz.func36 rfl Tryz.ntmps36 (Nat.le_of_ble_eq_true rfl) (args_5 _ _ _ _ _) ?_
 have hF := FR.start w0 [hb, cb]
 refine c_seq (c_region (o_val (x_assign rfl) (o_nil (e_seq (c_seq (c_seq (c_region (o_val (x_move rfl) (o_val (x_move rfl) (o_val (v := .bool (decide (((k : Nat) : Int) ≤ ((i : Nat) : Int)))) (x_geq rfl rfl) (o_nil (e_seq ?_))))))))))))
 refine c_splitd (d := 20) (p := ((k : Nat) : Int) ≤ ((i : Nat) : Int)) rfl (fun hc0 => ?_) (fun hc0 => ?_)
 refine c_ift rfl (c_seq (c_region (o_val (x_move rfl) (o_val (x_move rfl) (o_val (v := .int .i64 (((l - j : Nat) : Int))) (x_sub rfl rfl (wrap_to (by omega) (by omega) (by omega))) (o_val (x_assign rfl) (o_nil (e_seq ?_))))))))
 refine c_ret (e_ret (post_ret (res_1 (v := .int .i64 (((l - j : Nat) : Int))) rfl rfl) ?_))
 exact ⟨h, f, by rw [fd_left (by omega)], hT, hH, hF.same⟩
 refine c_iff rfl (c_skip (e_seq (c_seq (c_seq (c_region (o_val (x_move rfl) (o_val (x_move rfl) (o_val (v := .bool (decide (((l : Nat) : Int) ≤ ((j : Nat) : Int)))) (x_geq rfl rfl) (o_nil (e_seq ?_))))))))))
 refine c_splitd (d := 26) (p := ((l : Nat) : Int) ≤ ((j : Nat) : Int)) rfl (fun hc1 => ?_) (fun hc1 => ?_)
 refine c_ift rfl (c_seq (c_region (o_val (x_move rfl) (o_val (x_move rfl) (o_val (v := .int .i64 (((k - i : Nat) : Int))) (x_sub rfl rfl (wrap_to (by omega) (by omega) (by omega))) (o_val (x_assign rfl) (o_nil (e_seq ?_))))))))
 refine c_ret (e_ret (post_ret (res_1 (v := .int .i64 (((k - i : Nat) : Int))) rfl rfl) ?_))
 exact ⟨h, f, by rw [fd_right (by omega)], hT, hH, hF.same⟩
 refine c_iff rfl (c_skip (e_seq (c_seq ?_)))
 have hbnd := (fd_bounds (nodesT la fa) (nodesT lb fb) _ i k j l (Nat.le_refl _)).1
 have hgl : gx la.length lb.length i k j l < N := by rw [hN]; exact gx_lt (by omega) (by omega) (by omega) (by omega)
 have q1 : i * (la.length + 1) + k ≤ (i * (la.length + 1) + k) * (lb.length + 1) + j := by have : (i * (la.length + 1) + k) * 1 ≤ (i * (la.length + 1) + k) * (lb.length + 1) := Nat.mul_le_mul_left _ (by omega); omega
 have q2 : (i * (la.length + 1) + k) * (lb.length + 1) + j ≤ gx la.length lb.length i k j l := by have : ((i * (la.length + 1) + k) * (lb.length + 1) + j) * 1 ≤ ((i * (la.length + 1) + k) * (lb.length + 1) + j) * (lb.length + 1) := Nat.mul_le_mul_left _ (by omega); rw [gx]; omega
 have q3 : ((i * (la.length + 1) + k) * (lb.length + 1) + j) * (lb.length + 1) ≤ gx la.length lb.length i k j l := by rw [gx]; omega
 refine c_drawF [] (.free 0 (.free 1 (.free 2 (.free 3 (.free 4 (.free 5 (.free 6 (.free 7 (.free 8 (.free 9 (.free 10 (.free 11 (.free 12 (.free 13 (.free 14 (.free 15 (.free 16 (.free 17 (.free 18 (.free 19 (.free 20 (.free 21 (.free 22 (.free 23 (.free 24 (.free 25 .nil)))))))))))))))))))))))))) (by kernel_rfl) hF (by kernel_rfl) (by kernel_rfl) ?_
 clear hF; intro w hF hE
 replace hT := hT.ext hE
 clear hE
 refine ⟨fun wq => FR w0 [hb, cb] [] wq ∧ Tk wq N0 tb hb cb la fa lb fb Aa Ba Ab Bb k1 k2 k3 k4 N h f, ⟨hF, hT⟩, ?_⟩
 refine f_free rfl (v := .int .i64 ((i : Nat))) (fun w hC => x_move rfl) (f_free rfl (v := .pointer (some ⟨tb, 0, none⟩)) (fun w hC => x_move rfl) (f_free rfl (v := .pointer (some ⟨tb, 0, none⟩)) (fun w hC => x_nilCheck rfl) (f_free rfl (v := .pointer (some ⟨tb, 4, none⟩)) (fun w hC => x_fieldAddrO fa_87_2 rfl) (f_free rfl (v := .int .i64 ((la.length : Nat))) (fun w hC => x_load Tryz.isAgg3 rfl (hC.2.at 4 rfl)) (f_free rfl (v := .int .i64 (((la.length + 1 : Nat) : Int))) (fun w hC => x_add rfl rfl (wrap_to (by omega) (by omega) (by omega))) ?_)))))
 refine f_free rfl (v := .int .i64 (((i * (la.length + 1) : Nat) : Int))) (fun w hC => x_mul rfl rfl (wrap_to (by simp only [Int.natCast_mul, Int.natCast_add]) (by omega) (by omega))) ?_
 refine f_free rfl (v := .int .i64 ((k : Nat))) (fun w hC => x_move rfl) (f_free rfl (v := .int .i64 (((i * (la.length + 1) + k : Nat) : Int))) (fun w hC => x_add rfl rfl (wrap_to (by omega) (by omega) (by omega))) (f_free rfl (v := .pointer (some ⟨tb, 0, none⟩)) (fun w hC => x_move rfl) (f_free rfl (v := .pointer (some ⟨tb, 0, none⟩)) (fun w hC => x_nilCheck rfl) (f_free rfl (v := .pointer (some ⟨tb, 5, none⟩)) (fun w hC => x_fieldAddrO fa_87_3 rfl) (f_free rfl (v := .int .i64 ((lb.length : Nat))) (fun w hC => x_load Tryz.isAgg3 rfl (hC.2.at 5 rfl)) (f_free rfl (v := .int .i64 (((lb.length + 1 : Nat) : Int))) (fun w hC => x_add rfl rfl (wrap_to (by omega) (by omega) (by omega))) ?_))))))
 refine f_free rfl (v := .int .i64 ((((i * (la.length + 1) + k) * (lb.length + 1) : Nat) : Int))) (fun w hC => x_mul rfl rfl (wrap_to (by simp only [Int.natCast_mul, Int.natCast_add]) (by omega) (by omega))) ?_
 refine f_free rfl (v := .int .i64 ((j : Nat))) (fun w hC => x_move rfl) (f_free rfl (v := .int .i64 ((((i * (la.length + 1) + k) * (lb.length + 1) + j : Nat) : Int))) (fun w hC => x_add rfl rfl (wrap_to (by omega) (by omega) (by omega))) (f_free rfl (v := .pointer (some ⟨tb, 0, none⟩)) (fun w hC => x_move rfl) (f_free rfl (v := .pointer (some ⟨tb, 0, none⟩)) (fun w hC => x_nilCheck rfl) (f_free rfl (v := .pointer (some ⟨tb, 5, none⟩)) (fun w hC => x_fieldAddrO fa_87_3 rfl) (f_free rfl (v := .int .i64 ((lb.length : Nat))) (fun w hC => x_load Tryz.isAgg3 rfl (hC.2.at 5 rfl)) (f_free rfl (v := .int .i64 (((lb.length + 1 : Nat) : Int))) (fun w hC => x_add rfl rfl (wrap_to (by omega) (by omega) (by omega))) ?_))))))
 refine f_free rfl (v := .int .i64 (((((i * (la.length + 1) + k) * (lb.length + 1) + j) * (lb.length + 1) : Nat) : Int))) (fun w hC => x_mul rfl rfl (wrap_to (by simp only [Int.natCast_mul, Int.natCast_add]) (by omega) (by omega))) ?_
 refine f_free rfl (v := .int .i64 ((l : Nat))) (fun w hC => x_move rfl) ?_
 refine f_free rfl (v := .int .i64 (((gx la.length lb.length i k j l : Nat) : Int))) (fun w hC => x_add rfl rfl (wrap_to (by rw [gx]; omega) (by omega) (by omega))) ?_
 refine f_free rfl (v := .int .i64 (((gx la.length lb.length i k j l : Nat) : Int))) (fun w hC => x_assign rfl) (d_nil (e_seq (c_seq (c_seq (c_region (o_val (x_move rfl) (o_val (v := .pointer (some ⟨tb, 0, none⟩)) (x_nilCheck rfl) (o_val (v := .pointer (some ⟨tb, 6, none⟩)) (x_fieldAddrO fa_87_4 rfl) (o_val (v := .slice (some ⟨hb, 0, none⟩) (N) (N)) (x_load Tryz.isAgg85 rfl (hT.at 6 rfl)) (o_val (x_move rfl) (o_val (v := .pointer (some ⟨hb, gx la.length lb.length i k j l, none⟩)) (x_indexAddrO (i := ((gx la.length lb.length i k j l : Nat) : Int)) (gx la.length lb.length i k j l) sl_85 rfl rfl (by omega) (by omega) (by omega)) ?_)))))))))))
 refine o_val (v := .bool (h (gx la.length lb.length i k j l))) (x_load Tryz.isAgg4 rfl (by rw [cell_of_heap hT.had]; exact boolsA_get hgl)) ?_
 refine o_nil (e_seq ?_)
 refine c_split (d := 61) (b := h (gx la.length lb.length i k j l)) rfl (fun hc2 => ?_) (fun hc2 => ?_)
 refine c_ift rfl (c_seq (c_region (o_val (x_move rfl) (o_val (v := .pointer (some ⟨tb, 0, none⟩)) (x_nilCheck rfl) (o_val (v := .pointer (some ⟨tb, 7, none⟩)) (x_fieldAddrO fa_87_5 rfl) (o_val (v := .slice (some ⟨cb, 0, none⟩) (N) (N)) (x_load Tryz.isAgg28 rfl (hT.at 7 rfl)) (o_val (x_move rfl) (o_val (v := .pointer (some ⟨cb, gx la.length lb.length i k j l, none⟩)) (x_indexAddrO (i := ((gx la.length lb.length i k j l : Nat) : Int)) (gx la.length lb.length i k j l) sl_28 rfl rfl (by omega) (by omega) (by omega)) ?_))))))))
 refine o_val (v := .int .i64 ((fd (nodesT la fa) (nodesT lb fb) i k j l : Nat))) (x_load Tryz.isAgg3 rfl (by rw [cell_of_heap hT.cost, intsA_get hgl, hH i k j l (by omega) (by omega) (by omega) (by omega) (by assumption)])) ?_
 refine o_val (x_assign rfl) (o_nil (e_seq ?_))
 refine c_ret (e_ret (post_ret (res_1 (v := .int .i64 ((fd (nodesT la fa) (nodesT lb fb) i k j l : Nat))) rfl rfl) ?_))
 exact ⟨h, f, rfl, hT, hH, hF.same⟩
 refine c_iff rfl (c_skip (e_seq (c_seq (c_region (o_val (x_move rfl) (o_val (v := .int .i64 (((k - 1 : Nat) : Int))) (x_sub rfl rfl (wrap_to (by omega) (by omega) (by omega))) (o_val (x_assign rfl) (o_nil (e_seq (c_seq (c_region (o_val (x_move rfl) (o_val (v := .int .i64 (((l - 1 : Nat) : Int))) (x_sub rfl rfl (wrap_to (by omega) (by omega) (by omega))) ?_)))))))))))))
 refine o_val (x_assign rfl) (o_nil (e_seq (c_seq (c_region (o_val (x_assign rfl) (o_nil (e_seq ?_)))))))
 obtain ⟨adl, hadl⟩ : ∃ ad, Aa = some ad := by obtain ⟨ad, h, -⟩ := hT.La.str_elem (i := k - 1) (by omega); exact ⟨ad, h⟩
 obtain ⟨adm, hadm⟩ : ∃ ad, Ab = some ad := by obtain ⟨ad, h, -⟩ := hT.Lb.str_elem (i := l - 1) (by omega); exact ⟨ad, h⟩
 obtain ⟨adn, hadn⟩ := int_ad hT.Na (by omega)
 obtain ⟨ado, hado⟩ := int_ad hT.Nb (by omega)
 obtain ⟨pu, hpu0⟩ : ∃ z, z = lfN fa (k - 1) := ⟨_, rfl⟩
 obtain ⟨pv, hpv0⟩ : ∃ z, z = lfN fb (l - 1) := ⟨_, rfl⟩
 have hpu : fa[k - 1] = (pu : Int) := by rw [hpu0]; exact (hoa.at (by omega) (by omega)).symm
 have hpv : fb[l - 1] = (pv : Int) := by rw [hpv0]; exact (hob.at (by omega) (by omega)).symm
 have hpuk : pu ≤ k - 1 := by rw [hpu0]; exact Nat.min_le_right _ _
 have hpvl : pv ≤ l - 1 := by rw [hpv0]; exact Nat.min_le_right _ _
 have hst := fd_step (a := nodesT la fa) (b := nodesT lb fb) (i := i) (k := k) (j := j) (l := l) (by omega) (by omega)
 have ea1 : (nodesT la fa).lf (k - 1) = pu := hpu0.symm
 have eb1 : (nodesT lb fb).lf (l - 1) = pv := hpv0.symm
 rw [ea1, eb1] at hst
 have hturn : turn (nodesT la fa) (nodesT lb fb) (k - 1) (l - 1) = if la[k - 1] = lb[l - 1] then 0 else 1 := by simp [turn, nodesT, List.getD, show k - 1 < la.length by omega, show l - 1 < lb.length by omega]
 have m1 := (fd_bounds (nodesT la fa) (nodesT lb fb) _ i (k - 1) j l (Nat.le_refl _)).1
 have m2 := (fd_bounds (nodesT la fa) (nodesT lb fb) _ i k j (l - 1) (Nat.le_refl _)).1
 have m3 := (fd_bounds (nodesT la fa) (nodesT lb fb) _ i pu j pv (Nat.le_refl _)).1
 have m4 := (fd_bounds (nodesT la fa) (nodesT lb fb) _ pu (k - 1) pv (l - 1) (Nat.le_refl _)).1
 refine c_seq ?_
 refine c_join (fun σ w => ∃ (tt : Nat), (tt = turn (nodesT la fa) (nodesT lb fb) (k - 1) (l - 1)) ∧ (Tk w N0 tb hb cb la fa lb fb Aa Ba Ab Bb k1 k2 k3 k4 N h f) ∧ AllEq σ [(0, .pointer (some ⟨tb, 0, none⟩)), (1, .int .i64 ((i : Nat))), (2, .int .i64 ((k : Nat))), (3, .int .i64 ((j : Nat))), (4, .int .i64 ((l : Nat))), (11, .int .i64 (((gx la.length lb.length i k j l : Nat) : Int))), (12, .int .i64 (((k - 1 : Nat) : Int))), (13, .int .i64 (((l - 1 : Nat) : Int))), (14, .int .i64 ((tt : Nat)))] ∧ FR w0 [hb, cb] [] w) ?_ ?_
 refine c_seq ?_
 refine c_drawF [] (.free 0 (.free 1 (.free 2 (.free 3 (.free 4 (.free 5 (.free 6 (.free 7 (.free 8 (.free 9 (.free 10 (.free 11 (.free 12 (.free 13 (.free 14 (.free 15 (.free 16 .nil))))))))))))))))) (by kernel_rfl) hF (by kernel_rfl) (by kernel_rfl) ?_
 clear hF; intro w hF hE
 replace hT := hT.ext hE
 clear hE
 refine ⟨fun wq => FR w0 [hb, cb] [] wq ∧ Tk wq N0 tb hb cb la fa lb fb Aa Ba Ab Bb k1 k2 k3 k4 N h f, ⟨hF, hT⟩, ?_⟩
 refine f_free rfl (v := .pointer (some ⟨tb, 0, none⟩)) (fun w hC => x_move rfl) (f_free rfl (v := .pointer (some ⟨tb, 0, none⟩)) (fun w hC => x_nilCheck rfl) (f_free rfl (v := .pointer (some ⟨tb, 0, none⟩)) (fun w hC => x_fieldAddrO fa_87_0 rfl) (f_free rfl (v := .pointer (some ⟨tb, 0, none⟩)) (fun w hC => x_fieldAddrO fa_30_0 rfl) (f_free rfl (v := .slice (Aa) (la.length) (k1)) (fun w hC => x_load Tryz.isAgg22 rfl (hC.2.at 0 rfl)) (f_free rfl (v := .int .i64 (((k - 1 : Nat) : Int))) (fun w hC => x_move rfl) (f_free rfl (v := .pointer (some (adl.add ((k - 1) * 1)))) (fun w hC => x_indexAddrA (i := ((k - 1 : Nat) : Int)) sl_22 rfl hadl rfl (by omega) (by omega)) (f_free rfl (v := .string (bs (la[k - 1]))) (fun w hC => x_load Tryz.isAgg9 rfl (str_at hC.2.La hadl (by omega))) (f_free rfl (v := .pointer (some ⟨tb, 0, none⟩)) (fun w hC => x_move rfl) (f_free rfl (v := .pointer (some ⟨tb, 0, none⟩)) (fun w hC => x_nilCheck rfl) (f_free rfl (v := .pointer (some ⟨tb, 2, none⟩)) (fun w hC => x_fieldAddrO fa_87_1 rfl) (f_free rfl (v := .pointer (some ⟨tb, 2, none⟩)) (fun w hC => x_fieldAddrO fa_30_0 rfl) (f_free rfl (v := .slice (Ab) (lb.length) (k3)) (fun w hC => x_load Tryz.isAgg22 rfl (hC.2.at 2 rfl)) (f_free rfl (v := .int .i64 (((l - 1 : Nat) : Int))) (fun w hC => x_move rfl) ?_)))))))))))))
 refine f_free rfl (v := .pointer (some (adm.add ((l - 1) * 1)))) (fun w hC => x_indexAddrA (i := ((l - 1 : Nat) : Int)) sl_22 rfl hadm rfl (by omega) (by omega)) (f_free rfl (v := .string (bs (lb[l - 1]))) (fun w hC => x_load Tryz.isAgg9 rfl (str_at hC.2.Lb hadm (by omega))) (f_free rfl (v := .bool (decide ((la[k - 1] : Str) = lb[l - 1]))) (fun w hC => x_eqls rfl rfl) (d_nil (e_seq ?_))))
 refine c_splitd (d := 89) (p := (la[k - 1] : Str) = lb[l - 1]) rfl (fun hc3 => ?_) (fun hc3 => ?_)
 refine c_ift rfl (c_region (o_val (x_assign rfl) (o_nil ?_)))
 exact e_inv ⟨(0), (by rw [hturn, if_pos (by assumption)]), (hT), ⟨rfl, rfl, rfl, rfl, rfl, rfl, rfl, rfl, rfl, trivial⟩, hF⟩
 refine c_iff rfl (c_skip ?_)
 exact e_inv ⟨(1), (by rw [hturn, if_neg (by assumption)]), (hT), ⟨rfl, rfl, rfl, rfl, rfl, rfl, rfl, rfl, rfl, trivial⟩, hF⟩
 clear hF; rintro σ w ⟨tt, htt, hT, hs, hF⟩
 refine Eg.slots hs ?_
 clear hs; intro σ
 have htt1 : tt ≤ 1 := by rw [htt]; unfold turn; split <;> omega
 refine e_seq (c_seq (c_region (o_val (x_move rfl) (o_val (x_move rfl) (o_val (x_move rfl) (o_val (x_move rfl) (o_val (x_move rfl) ?_)))))))
 refine o_call (ih i (k - 1) j (l) (by omega) (by omega) (by omega) (by omega) (by omega) _ _ _ (Nat.le_trans hN0 hF.same.size) hT hH) (x_call5 en_36 rfl rfl rfl rfl rfl rfl) ?_
 rintro _ w ⟨h_, f_, rfl, hT_, hH_, hE⟩
 replace hF := hF.touch hE (fun b hb => ⟨fun _ => hb, fun z hz => by cases hz⟩)
 clear hT hH hE
 have hT := hT_
 have hH := hH_
 clear hT_ hH_
 refine o_val (x_move rfl) (o_val (x_move rfl) (o_val (x_move rfl) (o_val (x_move rfl) (o_val (x_move rfl) ?_))))
 refine o_call (ih i (k) j (l - 1) (by omega) (by omega) (by omega) (by omega) (by omega) _ _ _ (Nat.le_trans hN0 hF.same.size) hT hH) (x_call5 en_36 rfl rfl rfl rfl rfl rfl) ?_
 rintro _ w ⟨h_, f_, rfl, hT_, hH_, hE⟩
 replace hF := hF.touch hE (fun b hb => ⟨fun _ => hb, fun z hz => by cases hz⟩)
 clear hT hH hE
 have hT := hT_
 have hH := hH_
 clear hT_ hH_
 refine o_val (v := .int .i64 (min ((fd (nodesT la fa) (nodesT lb fb) i (k - 1) j l : Nat) : Int) ((fd (nodesT la fa) (nodesT lb fb) i k j (l - 1) : Nat) : Int))) (x_min rfl rfl) (o_val (v := .int .i64 ((min ((fd (nodesT la fa) (nodesT lb fb) i (k - 1) j l : Nat) : Int) ((fd (nodesT la fa) (nodesT lb fb) i k j (l - 1) : Nat) : Int) : Int) + 1)) (x_add rfl rfl (wrap_id (by omega) (by omega))) (o_val (x_assign rfl) (o_nil (e_seq (c_seq (c_region (o_val (x_move rfl) (o_val (v := .pointer (some ⟨tb, 0, none⟩)) (x_nilCheck rfl) (o_val (v := .pointer (some ⟨tb, 0, none⟩)) (x_fieldAddrO fa_87_0 rfl) (o_val (v := .pointer (some ⟨tb, 1, none⟩)) (x_fieldAddrO fa_30_1 rfl) (o_val (v := .slice (Ba) (fa.length) (k2)) (x_load Tryz.isAgg28 rfl (hT.at 1 rfl)) (o_val (x_move rfl) (o_val (v := .pointer (some (adn.add ((k - 1) * 1)))) (x_indexAddrA (i := ((k - 1 : Nat) : Int)) sl_28 rfl hadn rfl (by omega) (by omega)) ?_)))))))))))))
 refine o_val (v := .int .i64 ((pu : Nat))) (x_load Tryz.isAgg3 rfl (by rw [← hpu]; exact int_at hT.Na hadn (by omega))) ?_
 refine o_val (x_move rfl) ?_
 by_cases hmu : i ≤ pu
 refine o_val (v := .int .i64 ((pu : Nat))) (x_maxE rfl rfl (by omega)) (o_val (x_assign rfl) (o_nil (e_seq (c_seq (c_region (o_val (x_move rfl) (o_val (v := .pointer (some ⟨tb, 0, none⟩)) (x_nilCheck rfl) (o_val (v := .pointer (some ⟨tb, 2, none⟩)) (x_fieldAddrO fa_87_1 rfl) (o_val (v := .pointer (some ⟨tb, 3, none⟩)) (x_fieldAddrO fa_30_1 rfl) (o_val (v := .slice (Bb) (fb.length) (k4)) (x_load Tryz.isAgg28 rfl (hT.at 3 rfl)) (o_val (x_move rfl) (o_val (v := .pointer (some (ado.add ((l - 1) * 1)))) (x_indexAddrA (i := ((l - 1 : Nat) : Int)) sl_28 rfl hado rfl (by omega) (by omega)) ?_))))))))))))
 refine o_val (v := .int .i64 ((pv : Nat))) (x_load Tryz.isAgg3 rfl (by rw [← hpv]; exact int_at hT.Nb hado (by omega))) ?_
 refine o_val (x_move rfl) ?_
 by_cases hmv : j ≤ pv
 refine o_val (v := .int .i64 ((pv : Nat))) (x_maxE rfl rfl (by omega)) (o_val (x_assign rfl) (o_nil (e_seq (c_seq (c_seq (c_region (o_val (x_move rfl) (o_val (x_move rfl) (o_val (v := .pointer (some ⟨tb, 0, none⟩)) (x_nilCheck rfl) (o_val (v := .pointer (some ⟨tb, 0, none⟩)) (x_fieldAddrO fa_87_0 rfl) (o_val (v := .pointer (some ⟨tb, 1, none⟩)) (x_fieldAddrO fa_30_1 rfl) (o_val (v := .slice (Ba) (fa.length) (k2)) (x_load Tryz.isAgg28 rfl (hT.at 1 rfl)) (o_val (x_move rfl) ?_)))))))))))))
 refine o_val (v := .pointer (some (adn.add ((k - 1) * 1)))) (x_indexAddrA (i := ((k - 1 : Nat) : Int)) sl_28 rfl hadn rfl (by omega) (by omega)) ?_
 refine o_val (v := .int .i64 ((pu : Nat))) (x_load Tryz.isAgg3 rfl (by rw [← hpu]; exact int_at hT.Na hadn (by omega))) ?_
 refine o_val (v := .bool true) (run_true (x_eql rfl rfl) rfl) (o_val (x_move rfl) (o_val (x_move rfl) (o_val (x_move rfl) (o_val (v := .pointer (some ⟨tb, 0, none⟩)) (x_nilCheck rfl) (o_val (v := .pointer (some ⟨tb, 2, none⟩)) (x_fieldAddrO fa_87_1 rfl) (o_val (v := .pointer (some ⟨tb, 3, none⟩)) (x_fieldAddrO fa_30_1 rfl) (o_val (v := .slice (Bb) (fb.length) (k4)) (x_load Tryz.isAgg28 rfl (hT.at 3 rfl)) (o_val (x_move rfl) (o_val (v := .pointer (some (ado.add ((l - 1) * 1)))) (x_indexAddrA (i := ((l - 1 : Nat) : Int)) sl_28 rfl hado rfl (by omega) (by omega)) ?_)))))))))
 refine o_val (v := .int .i64 ((pv : Nat))) (x_load Tryz.isAgg3 rfl (by rw [← hpv]; exact int_at hT.Nb hado (by omega))) ?_
 refine o_val (v := .bool true) (run_true (x_eql rfl rfl) rfl) (o_val (x_pickt rfl rfl) (o_nil (e_seq (c_ift rfl (c_region (o_val (x_move rfl) (o_val (x_move rfl) (o_val (x_move rfl) (o_val (x_move rfl) (o_val (x_move rfl) (o_val (x_move rfl) ?_)))))))))))
 refine o_call (ih i (pu) j (pv) (by omega) (by omega) (by omega) (by omega) (by omega) _ _ _ (Nat.le_trans hN0 hF.same.size) hT hH) (x_call5 en_36 rfl rfl rfl rfl rfl rfl) ?_
 rintro _ w ⟨h_, f_, rfl, hT_, hH_, hE⟩
 replace hF := hF.touch hE (fun b hb => ⟨fun _ => hb, fun z hz => by cases hz⟩)
 clear hT hH hE
 have hT := hT_
 have hH := hH_
 clear hT_ hH_
 refine o_val (x_move rfl) (o_val (x_move rfl) (o_val (x_move rfl) (o_val (x_move rfl) (o_val (x_move rfl) ?_))))
 refine o_call (ih pu (k - 1) pv (l - 1) (by omega) (by omega) (by omega) (by omega) (by omega) _ _ _ (Nat.le_trans hN0 hF.same.size) hT hH) (x_call5 en_36 rfl rfl rfl rfl rfl rfl) ?_
 rintro _ w ⟨h_, f_, rfl, hT_, hH_, hE⟩
 replace hF := hF.touch hE (fun b hb => ⟨fun _ => hb, fun z hz => by cases hz⟩)
 clear hT hH hE
 have hT := hT_
 have hH := hH_
 clear hT_ hH_
 refine o_val (v := .int .i64 (((fd (nodesT la fa) (nodesT lb fb) i pu j pv : Nat) : Int) + (fd (nodesT la fa) (nodesT lb fb) pu (k - 1) pv (l - 1) : Nat))) (x_add rfl rfl (wrap_id (by omega) (by omega))) (o_val (x_move rfl) (o_val (v := .int .i64 ((((fd (nodesT la fa) (nodesT lb fb) i pu j pv : Nat) : Int) + (fd (nodesT la fa) (nodesT lb fb) pu (k - 1) pv (l - 1) : Nat) : Int) + (tt : Nat))) (x_add rfl rfl (wrap_id (by omega) (by omega))) (o_val (v := .int .i64 (min ((min ((fd (nodesT la fa) (nodesT lb fb) i (k - 1) j l : Nat) : Int) ((fd (nodesT la fa) (nodesT lb fb) i k j (l - 1) : Nat) : Int) : Int) + 1 : Int) ((((fd (nodesT la fa) (nodesT lb fb) i pu j pv : Nat) : Int) + (fd (nodesT la fa) (nodesT lb fb) pu (k - 1) pv (l - 1) : Nat) : Int) + (tt : Nat) : Int))) (x_min rfl rfl) (o_val (x_assign rfl) (o_nil (e_seq (c_seq ?_)))))))
 have hbest : (min ((min ((fd (nodesT la fa) (nodesT lb fb) i (k - 1) j l : Nat) : Int) ((fd (nodesT la fa) (nodesT lb fb) i k j (l - 1) : Nat) : Int) : Int) + 1 : Int) ((((fd (nodesT la fa) (nodesT lb fb) i pu j pv : Nat) : Int) + (fd (nodesT la fa) (nodesT lb fb) pu (k - 1) pv (l - 1) : Nat) : Int) + (tt : Nat) : Int) : Int) = ((fd (nodesT la fa) (nodesT lb fb) i k j l : Nat) : Int) := by rw [hst, if_pos ⟨hmu, hmv⟩, ← htt]; omega
 refine c_region (o_val (x_move rfl) (o_val (v := .pointer (some ⟨tb, 0, none⟩)) (x_nilCheck rfl) (o_val (v := .pointer (some ⟨tb, 6, none⟩)) (x_fieldAddrO fa_87_4 rfl) (o_val (v := .slice (some ⟨hb, 0, none⟩) (N) (N)) (x_load Tryz.isAgg85 rfl (hT.at 6 rfl)) (o_val (x_move rfl) (o_val (v := .pointer (some ⟨hb, gx la.length lb.length i k j l, none⟩)) (x_indexAddrO (i := ((gx la.length lb.length i k j l : Nat) : Int)) (gx la.length lb.length i k j l) sl_85 rfl rfl (by omega) (by omega) (by omega)) ?_))))))
 refine o_storeB hF Tryz.sizeOf4 rfl rfl hT.had hgl (by simp) (by simp) ?_
 clear hF; intro w hF hE hnew
 replace hT := hT.putH hE hnew
 clear hE hnew
 refine o_nil (e_seq (c_seq (c_region (o_val (x_move rfl) (o_val (v := .pointer (some ⟨tb, 0, none⟩)) (x_nilCheck rfl) (o_val (v := .pointer (some ⟨tb, 7, none⟩)) (x_fieldAddrO fa_87_5 rfl) (o_val (v := .slice (some ⟨cb, 0, none⟩) (N) (N)) (x_load Tryz.isAgg28 rfl (hT.at 7 rfl)) (o_val (x_move rfl) (o_val (x_move rfl) (o_val (v := .pointer (some ⟨cb, gx la.length lb.length i k j l, none⟩)) (x_indexAddrO (i := ((gx la.length lb.length i k j l : Nat) : Int)) (gx la.length lb.length i k j l) sl_28 rfl rfl (by omega) (by omega) (by omega)) ?_))))))))))
 refine o_storeI hF Tryz.sizeOf3 rfl rfl hT.cost hgl (by simp) (by simp) ?_
 clear hF; intro w hF hE hnew
 replace hT := hT.putC hE hnew
 clear hE hnew
 refine o_nil (e_seq (c_seq (c_region (o_val (x_move rfl) (o_val (x_assign rfl) (o_nil (e_seq ?_)))))))
 refine c_ret (e_ret (post_ret (res_1 (v := .int .i64 (min ((min ((fd (nodesT la fa) (nodesT lb fb) i (k - 1) j l : Nat) : Int) ((fd (nodesT la fa) (nodesT lb fb) i k j (l - 1) : Nat) : Int) : Int) + 1 : Int) ((((fd (nodesT la fa) (nodesT lb fb) i pu j pv : Nat) : Int) + (fd (nodesT la fa) (nodesT lb fb) pu (k - 1) pv (l - 1) : Nat) : Int) + (tt : Nat) : Int))) rfl rfl) ?_))
 exact ⟨_, _, by rw [hbest], hT, hH.put (by omega) (by omega) (by omega) hbest, hF.same⟩
 refine o_val (v := .int .i64 ((j : Nat))) (x_maxE rfl rfl (by omega)) (o_val (x_assign rfl) (o_nil (e_seq (c_seq (c_seq (c_region (o_val (x_move rfl) (o_val (x_move rfl) (o_val (v := .pointer (some ⟨tb, 0, none⟩)) (x_nilCheck rfl) (o_val (v := .pointer (some ⟨tb, 0, none⟩)) (x_fieldAddrO fa_87_0 rfl) (o_val (v := .pointer (some ⟨tb, 1, none⟩)) (x_fieldAddrO fa_30_1 rfl) (o_val (v := .slice (Ba) (fa.length) (k2)) (x_load Tryz.isAgg28 rfl (hT.at 1 rfl)) (o_val (x_move rfl) ?_)))))))))))))
 refine o_val (v := .pointer (some (adn.add ((k - 1) * 1)))) (x_indexAddrA (i := ((k - 1 : Nat) : Int)) sl_28 rfl hadn rfl (by omega) (by omega)) ?_
 refine o_val (v := .int .i64 ((pu : Nat))) (x_load Tryz.isAgg3 rfl (by rw [← hpu]; exact int_at hT.Na hadn (by omega))) ?_
 refine o_val (v := .bool true) (run_true (x_eql rfl rfl) rfl) (o_val (x_move rfl) (o_val (x_move rfl) (o_val (x_move rfl) (o_val (v := .pointer (some ⟨tb, 0, none⟩)) (x_nilCheck rfl) (o_val (v := .pointer (some ⟨tb, 2, none⟩)) (x_fieldAddrO fa_87_1 rfl) (o_val (v := .pointer (some ⟨tb, 3, none⟩)) (x_fieldAddrO fa_30_1 rfl) (o_val (v := .slice (Bb) (fb.length) (k4)) (x_load Tryz.isAgg28 rfl (hT.at 3 rfl)) (o_val (x_move rfl) (o_val (v := .pointer (some (ado.add ((l - 1) * 1)))) (x_indexAddrA (i := ((l - 1 : Nat) : Int)) sl_28 rfl hado rfl (by omega) (by omega)) ?_)))))))))
 refine o_val (v := .int .i64 ((pv : Nat))) (x_load Tryz.isAgg3 rfl (by rw [← hpv]; exact int_at hT.Nb hado (by omega))) ?_
 refine o_val (v := .bool false) (run_false (x_eql rfl rfl) (by omega)) (o_val (x_pickt rfl rfl) (o_nil (e_seq (c_iff rfl (c_skip (e_seq (c_seq ?_)))))))
 have hbest : ((min ((fd (nodesT la fa) (nodesT lb fb) i (k - 1) j l : Nat) : Int) ((fd (nodesT la fa) (nodesT lb fb) i k j (l - 1) : Nat) : Int) : Int) + 1 : Int) = ((fd (nodesT la fa) (nodesT lb fb) i k j l : Nat) : Int) := by rw [hst, if_neg (by omega)]; omega
 refine c_region (o_val (x_move rfl) (o_val (v := .pointer (some ⟨tb, 0, none⟩)) (x_nilCheck rfl) (o_val (v := .pointer (some ⟨tb, 6, none⟩)) (x_fieldAddrO fa_87_4 rfl) (o_val (v := .slice (some ⟨hb, 0, none⟩) (N) (N)) (x_load Tryz.isAgg85 rfl (hT.at 6 rfl)) (o_val (x_move rfl) (o_val (v := .pointer (some ⟨hb, gx la.length lb.length i k j l, none⟩)) (x_indexAddrO (i := ((gx la.length lb.length i k j l : Nat) : Int)) (gx la.length lb.length i k j l) sl_85 rfl rfl (by omega) (by omega) (by omega)) ?_))))))
 refine o_storeB hF Tryz.sizeOf4 rfl rfl hT.had hgl (by simp) (by simp) ?_
 clear hF; intro w hF hE hnew
 replace hT := hT.putH hE hnew
 clear hE hnew
 refine o_nil (e_seq (c_seq (c_region (o_val (x_move rfl) (o_val (v := .pointer (some ⟨tb, 0, none⟩)) (x_nilCheck rfl) (o_val (v := .pointer (some ⟨tb, 7, none⟩)) (x_fieldAddrO fa_87_5 rfl) (o_val (v := .slice (some ⟨cb, 0, none⟩) (N) (N)) (x_load Tryz.isAgg28 rfl (hT.at 7 rfl)) (o_val (x_move rfl) (o_val (x_move rfl) (o_val (v := .pointer (some ⟨cb, gx la.length lb.length i k j l, none⟩)) (x_indexAddrO (i := ((gx la.length lb.length i k j l : Nat) : Int)) (gx la.length lb.length i k j l) sl_28 rfl rfl (by omega) (by omega) (by omega)) ?_))))))))))
 refine o_storeI hF Tryz.sizeOf3 rfl rfl hT.cost hgl (by simp) (by simp) ?_
 clear hF; intro w hF hE hnew
 replace hT := hT.putC hE hnew
 clear hE hnew
 refine o_nil (e_seq (c_seq (c_region (o_val (x_move rfl) (o_val (x_assign rfl) (o_nil (e_seq ?_)))))))
 refine c_ret (e_ret (post_ret (res_1 (v := .int .i64 ((min ((fd (nodesT la fa) (nodesT lb fb) i (k - 1) j l : Nat) : Int) ((fd (nodesT la fa) (nodesT lb fb) i k j (l - 1) : Nat) : Int) : Int) + 1)) rfl rfl) ?_))
 exact ⟨_, _, by rw [hbest], hT, hH.put (by omega) (by omega) (by omega) hbest, hF.same⟩
 refine o_val (v := .int .i64 ((i : Nat))) (x_maxE rfl rfl (by omega)) (o_val (x_assign rfl) (o_nil (e_seq (c_seq (c_region (o_val (x_move rfl) (o_val (v := .pointer (some ⟨tb, 0, none⟩)) (x_nilCheck rfl) (o_val (v := .pointer (some ⟨tb, 2, none⟩)) (x_fieldAddrO fa_87_1 rfl) (o_val (v := .pointer (some ⟨tb, 3, none⟩)) (x_fieldAddrO fa_30_1 rfl) (o_val (v := .slice (Bb) (fb.length) (k4)) (x_load Tryz.isAgg28 rfl (hT.at 3 rfl)) (o_val (x_move rfl) (o_val (v := .pointer (some (ado.add ((l - 1) * 1)))) (x_indexAddrA (i := ((l - 1 : Nat) : Int)) sl_28 rfl hado rfl (by omega) (by omega)) ?_))))))))))))
 refine o_val (v := .int .i64 ((pv : Nat))) (x_load Tryz.isAgg3 rfl (by rw [← hpv]; exact int_at hT.Nb hado (by omega))) ?_
 refine o_val (x_move rfl) ?_
 by_cases hmv : j ≤ pv
 refine o_val (v := .int .i64 ((pv : Nat))) (x_maxE rfl rfl (by omega)) (o_val (x_assign rfl) (o_nil (e_seq (c_seq (c_seq (c_region (o_val (x_move rfl) (o_val (x_move rfl) (o_val (v := .pointer (some ⟨tb, 0, none⟩)) (x_nilCheck rfl) (o_val (v := .pointer (some ⟨tb, 0, none⟩)) (x_fieldAddrO fa_87_0 rfl) (o_val (v := .pointer (some ⟨tb, 1, none⟩)) (x_fieldAddrO fa_30_1 rfl) (o_val (v := .slice (Ba) (fa.length) (k2)) (x_load Tryz.isAgg28 rfl (hT.at 1 rfl)) (o_val (x_move rfl) ?_)))))))))))))
 refine o_val (v := .pointer (some (adn.add ((k - 1) * 1)))) (x_indexAddrA (i := ((k - 1 : Nat) : Int)) sl_28 rfl hadn rfl (by omega) (by omega)) ?_
 refine o_val (v := .int .i64 ((pu : Nat))) (x_load Tryz.isAgg3 rfl (by rw [← hpu]; exact int_at hT.Na hadn (by omega))) ?_
 refine o_val (v := .bool false) (run_false (x_eql rfl rfl) (by omega)) (o_val (x_move rfl) (o_off (o_off (o_off (o_off (o_off (o_off (o_off (o_off (o_off (o_off (o_val (x_pickf rfl rfl) (o_nil ?_)))))))))))))
 refine e_seq (c_iff rfl (c_skip (e_seq (c_seq ?_))))
 have hbest : ((min ((fd (nodesT la fa) (nodesT lb fb) i (k - 1) j l : Nat) : Int) ((fd (nodesT la fa) (nodesT lb fb) i k j (l - 1) : Nat) : Int) : Int) + 1 : Int) = ((fd (nodesT la fa) (nodesT lb fb) i k j l : Nat) : Int) := by rw [hst, if_neg (by omega)]; omega
 refine c_region (o_val (x_move rfl) (o_val (v := .pointer (some ⟨tb, 0, none⟩)) (x_nilCheck rfl) (o_val (v := .pointer (some ⟨tb, 6, none⟩)) (x_fieldAddrO fa_87_4 rfl) (o_val (v := .slice (some ⟨hb, 0, none⟩) (N) (N)) (x_load Tryz.isAgg85 rfl (hT.at 6 rfl)) (o_val (x_move rfl) (o_val (v := .pointer (some ⟨hb, gx la.length lb.length i k j l, none⟩)) (x_indexAddrO (i := ((gx la.length lb.length i k j l : Nat) : Int)) (gx la.length lb.length i k j l) sl_85 rfl rfl (by omega) (by omega) (by omega)) ?_))))))
 refine o_storeB hF Tryz.sizeOf4 rfl rfl hT.had hgl (by simp) (by simp) ?_
 clear hF; intro w hF hE hnew
 replace hT := hT.putH hE hnew
 clear hE hnew
 refine o_nil (e_seq (c_seq (c_region (o_val (x_move rfl) (o_val (v := .pointer (some ⟨tb, 0, none⟩)) (x_nilCheck rfl) (o_val (v := .pointer (some ⟨tb, 7, none⟩)) (x_fieldAddrO fa_87_5 rfl) (o_val (v := .slice (some ⟨cb, 0, none⟩) (N) (N)) (x_load Tryz.isAgg28 rfl (hT.at 7 rfl)) (o_val (x_move rfl) (o_val (x_move rfl) (o_val (v := .pointer (some ⟨cb, gx la.length lb.length i k j l, none⟩)) (x_indexAddrO (i := ((gx la.length lb.length i k j l : Nat) : Int)) (gx la.length lb.length i k j l) sl_28 rfl rfl (by omega) (by omega) (by omega)) ?_))))))))))
 refine o_storeI hF Tryz.sizeOf3 rfl rfl hT.cost hgl (by simp) (by simp) ?_
 clear hF; intro w hF hE hnew
 replace hT := hT.putC hE hnew
 clear hE hnew
 refine o_nil (e_seq (c_seq (c_region (o_val (x_move rfl) (o_val (x_assign rfl) (o_nil (e_seq ?_)))))))
 refine c_ret (e_ret (post_ret (res_1 (v := .int .i64 ((min ((fd (nodesT la fa) (nodesT lb fb) i (k - 1) j l : Nat) : Int) ((fd (nodesT la fa) (nodesT lb fb) i k j (l - 1) : Nat) : Int) : Int) + 1)) rfl rfl) ?_))
 exact ⟨_, _, by rw [hbest], hT, hH.put (by omega) (by omega) (by omega) hbest, hF.same⟩
 refine o_val (v := .int .i64 ((j : Nat))) (x_maxE rfl rfl (by omega)) (o_val (x_assign rfl) (o_nil (e_seq (c_seq (c_seq (c_region (o_val (x_move rfl) (o_val (x_move rfl) (o_val (v := .pointer (some ⟨tb, 0, none⟩)) (x_nilCheck rfl) (o_val (v := .pointer (some ⟨tb, 0, none⟩)) (x_fieldAddrO fa_87_0 rfl) (o_val (v := .pointer (some ⟨tb, 1, none⟩)) (x_fieldAddrO fa_30_1 rfl) (o_val (v := .slice (Ba) (fa.length) (k2)) (x_load Tryz.isAgg28 rfl (hT.at 1 rfl)) (o_val (x_move rfl) ?_)))))))))))))
 refine o_val (v := .pointer (some (adn.add ((k - 1) * 1)))) (x_indexAddrA (i := ((k - 1 : Nat) : Int)) sl_28 rfl hadn rfl (by omega) (by omega)) ?_
 refine o_val (v := .int .i64 ((pu : Nat))) (x_load Tryz.isAgg3 rfl (by rw [← hpu]; exact int_at hT.Na hadn (by omega))) ?_
 refine o_val (v := .bool false) (run_false (x_eql rfl rfl) (by omega)) (o_val (x_move rfl) (o_off (o_off (o_off (o_off (o_off (o_off (o_off (o_off (o_off (o_off (o_val (x_pickf rfl rfl) (o_nil ?_)))))))))))))
 refine e_seq (c_iff rfl (c_skip (e_seq (c_seq ?_))))
 have hbest : ((min ((fd (nodesT la fa) (nodesT lb fb) i (k - 1) j l : Nat) : Int) ((fd (nodesT la fa) (nodesT lb fb) i k j (l - 1) : Nat) : Int) : Int) + 1 : Int) = ((fd (nodesT la fa) (nodesT lb fb) i k j l : Nat) : Int) := by rw [hst, if_neg (by omega)]; omega
 refine c_region (o_val (x_move rfl) (o_val (v := .pointer (some ⟨tb, 0, none⟩)) (x_nilCheck rfl) (o_val (v := .pointer (some ⟨tb, 6, none⟩)) (x_fieldAddrO fa_87_4 rfl) (o_val (v := .slice (some ⟨hb, 0, none⟩) (N) (N)) (x_load Tryz.isAgg85 rfl (hT.at 6 rfl)) (o_val (x_move rfl) (o_val (v := .pointer (some ⟨hb, gx la.length lb.length i k j l, none⟩)) (x_indexAddrO (i := ((gx la.length lb.length i k j l : Nat) : Int)) (gx la.length lb.length i k j l) sl_85 rfl rfl (by omega) (by omega) (by omega)) ?_))))))
 refine o_storeB hF Tryz.sizeOf4 rfl rfl hT.had hgl (by simp) (by simp) ?_
 clear hF; intro w hF hE hnew
 replace hT := hT.putH hE hnew
 clear hE hnew
 refine o_nil (e_seq (c_seq (c_region (o_val (x_move rfl) (o_val (v := .pointer (some ⟨tb, 0, none⟩)) (x_nilCheck rfl) (o_val (v := .pointer (some ⟨tb, 7, none⟩)) (x_fieldAddrO fa_87_5 rfl) (o_val (v := .slice (some ⟨cb, 0, none⟩) (N) (N)) (x_load Tryz.isAgg28 rfl (hT.at 7 rfl)) (o_val (x_move rfl) (o_val (x_move rfl) (o_val (v := .pointer (some ⟨cb, gx la.length lb.length i k j l, none⟩)) (x_indexAddrO (i := ((gx la.length lb.length i k j l : Nat) : Int)) (gx la.length lb.length i k j l) sl_28 rfl rfl (by omega) (by omega) (by omega)) ?_))))))))))
 refine o_storeI hF Tryz.sizeOf3 rfl rfl hT.cost hgl (by simp) (by simp) ?_
 clear hF; intro w hF hE hnew
 replace hT := hT.putC hE hnew
 clear hE hnew
 refine o_nil (e_seq (c_seq (c_region (o_val (x_move rfl) (o_val (x_assign rfl) (o_nil (e_seq ?_)))))))
 refine c_ret (e_ret (post_ret (res_1 (v := .int .i64 ((min ((fd (nodesT la fa) (nodesT lb fb) i (k - 1) j l : Nat) : Int) ((fd (nodesT la fa) (nodesT lb fb) i k j (l - 1) : Nat) : Int) : Int) + 1)) rfl rfl) ?_))
 exact ⟨_, _, by rw [hbest], hT, hH.put (by omega) (by omega) (by omega) hbest, hF.same⟩
theorem between16_c (N0 tb hb cb : Nat) (la : List Str) (fa : List Int) (lb : List Str) (fb : List Int) (Aa Ba Ab Bb : Option Addr) (k1 k2 k3 k4 N : Nat) (hN : N = (la.length + 1) * (la.length + 1) * (lb.length + 1) * (lb.length + 1)) (hNm : N ≤ 43046721) (hka : la.length = fa.length) (hkb : lb.length = fb.length) (hoa : lfOk fa fa.length) (hob : lfOk fb fb.length) (hn5 : la.length ≤ 512) (hm5 : lb.length ≤ 512) : ∀ (s i k j l : Nat), (k - i) + (l - j) ≤ s → i ≤ k → k ≤ la.length → j ≤ l → l ≤ lb.length → BtC N0 tb hb cb la fa lb fb Aa Ba Ab Bb k1 k2 k3 k4 N i k j l := by
  intro s
  induction s using Nat.strongRecOn with
  | _ s IH =>
    intro i k j l hs hik hkn hjl hlm w0 h f hN0 hT hH
    exact between_step N0 tb hb cb la fa lb fb Aa Ba Ab Bb k1 k2 k3 k4 N hN hNm hka hkb hoa hob hn5 hm5 i k j l hik hkn hjl hlm (fun i' k' j' l' hlt h1 h2 h3 h4 => IH ((k' - i') + (l' - j')) (by omega) i' k' j' l' (Nat.le_refl _) h1 h2 h3 h4) w0 h f hN0 hT hH
end Go.Scarf
