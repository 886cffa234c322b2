/- A part of the proof. -/
import Derived.Test.YtpliibolgknenaaGreatDoorZ1
import Derived.Test.YtpliibolgknenaaGreatDoorMapI
import Derived.Sort.OwnSortedInts
import Derived.Test.YtpliibolgknenaaGreatDoorShelf
set_option linter.all false
namespace Go.Scarf
open Go.RowKit Go.Proofs
def fdI (A B : Nodes) (u v p q : Nat) : Int := ((fd A B u (u + p) v (v + q) : Nat) : Int)
theorem fdI_col (A B : Nodes) (u v p : Nat) : fdI A B u v p 0 = (p : Int) := by unfold fdI; rw [fd_right (by omega)]; omega
theorem fdI_row (A B : Nodes) (u v q : Nat) : fdI A B u v 0 q = (q : Int) := by unfold fdI; rw [fd_left (by omega)]; omega
theorem gi_set {f : Nat → Int} {m p q p0 q0 : Nat} {b : Int} (hq : q ≤ m) (h0 : q0 ≤ m) (h : ¬ (p = p0 ∧ q = q0)) : setF f (gi m p0 q0) b (gi m p q) = f (gi m p q) := setF_ne fun e => h (gi_inj hq h0 e)
theorem col_step {f : Nat → Int} {m x : Nat} (h : ∀ p', p' ≤ x → f (gi m p' 0) = (p' : Int)) : ∀ p', p' ≤ x + 1 → setF f (gi m (x + 1) 0) ((x + 1 : Nat) : Int) (gi m p' 0) = (p' : Int) := fun p' hp => by
  by_cases e : p' = x + 1
  · subst e; exact setF_at _ _ _
  · rw [gi_set (by omega) (by omega) (by omega)]; exact h p' (by omega)
theorem row_step {f : Nat → Int} {m y : Nat} (hy : y + 1 ≤ m) (h : ∀ q', q' ≤ y → f (gi m 0 q') = (q' : Int)) : ∀ q', q' ≤ y + 1 → setF f (gi m 0 (y + 1)) ((y + 1 : Nat) : Int) (gi m 0 q') = (q' : Int) := fun q' hq => by
  by_cases e : q' = y + 1
  · subst e; exact setF_at _ _ _
  · rw [gi_set (by omega) (by omega) (by omega)]; exact h q' (by omega)
theorem row_col {f : Nat → Int} {m n y : Nat} (hy : y + 1 ≤ m) (h : ∀ p', p' ≤ n → f (gi m p' 0) = (p' : Int)) {b : Int} {x : Nat} : ∀ p', p' ≤ n → setF f (gi m x (y + 1)) b (gi m p' 0) = (p' : Int) := fun p' hp => by
  rw [gi_set (by omega) (by omega) (by omega)]; exact h p' hp
def Rt (fa fb : List Int) (u n v m i j : Nat) : Prop := u ≤ i ∧ i < u + n ∧ v ≤ j ∧ j < v + m ∧ lfN fa i = u ∧ lfN fb j = v
def Fok (A B : Nodes) (fa fb : List Int) (u n v m x y : Nat) (P0 P : Nat → Nat → Int) : Prop :=
  (∀ i j, Rt fa fb u n v m i j → (i < u + x ∨ (i = u + x ∧ j < v + y)) → P i j = ((td A B i j : Nat) : Int)) ∧ (∀ i j, ¬ Rt fa fb u n v m i j → P i j = P0 i j)
section
variable {A B : Nodes} {fa fb : List Int} {u n v m x y : Nat} {P0 P : Nat → Nat → Int}
theorem Fok.start : Fok A B fa fb u n v m 0 0 P0 P0 := ⟨fun i j h h2 => by have := h.1; have := h.2.2.1; omega, fun _ _ _ => rfl⟩
theorem Fok.next (h : Fok A B fa fb u n v m x m P0 P) : Fok A B fa fb u n v m (x + 1) 0 P0 P := ⟨fun i j hr h2 => h.1 i j hr (by have := hr.2.2.2.1; have := hr.2.2.1; omega), h.2⟩
theorem Fok.skip (h : Fok A B fa fb u n v m x y P0 P) (hn : ¬ (lfN fa (u + x) = u ∧ lfN fb (v + y) = v)) : Fok A B fa fb u n v m x (y + 1) P0 P := ⟨fun i j hr h2 => by
  by_cases e : i = u + x ∧ j = v + y
  · obtain ⟨rfl, rfl⟩ := e; exact absurd hr.2.2.2.2 hn
  · exact h.1 i j hr (by omega), h.2⟩
theorem Fok.put (h : Fok A B fa fb u n v m x y P0 P) (hr : Rt fa fb u n v m (u + x) (v + y)) {b : Int} (hb : b = ((td A B (u + x) (v + y) : Nat) : Int)) : Fok A B fa fb u n v m x (y + 1) P0 (set2 P (u + x) (v + y) b) := by
  refine ⟨fun i j hri h2 => ?_, fun i j hri => ?_⟩
  · by_cases e : i = u + x ∧ j = v + y
    · obtain ⟨rfl, rfl⟩ := e; rw [set2_at]; exact hb
    · rw [set2_ne e]; exact h.1 i j hri (by omega)
  · rw [set2_ne (fun e => by obtain ⟨rfl, rfl⟩ := e; exact hri hr)]; exact h.2 i j hri
def Gok (A B : Nodes) (u n v m x y : Nat) (f : Nat → Int) : Prop :=
  (∀ p', p' ≤ n → f (gi m p' 0) = (p' : Int)) ∧ (∀ p' q', p' ≤ x → q' ≤ m → f (gi m p' q') = fdI A B u v p' q') ∧ (∀ q', q' ≤ y → f (gi m (x + 1) q') = fdI A B u v (x + 1) q')
theorem Gok.start {f : Nat → Int} (hc : ∀ p', p' ≤ n → f (gi m p' 0) = (p' : Int)) (hr : ∀ q', q' ≤ m → f (gi m 0 q') = (q' : Int)) (hn : 0 < n) : Gok A B u n v m 0 0 f := by
  refine ⟨hc, fun p' q' hp hq => ?_, fun q' hq => ?_⟩
  · obtain rfl : p' = 0 := by omega
    rw [hr q' hq, fdI_row]
  · obtain rfl : q' = 0 := by omega
    rw [hc _ (by omega), fdI_col]
theorem Gok.put {f : Nat → Int} (h : Gok A B u n v m x y f) (hy : y + 1 ≤ m) {b : Int} (hb : b = fdI A B u v (x + 1) (y + 1)) : Gok A B u n v m x (y + 1) (setF f (gi m (x + 1) (y + 1)) b) := by
  refine ⟨row_col hy h.1, fun p' q' hp hq => ?_, fun q' hq => ?_⟩
  · rw [gi_set hq hy (by omega)]; exact h.2.1 p' q' hp hq
  · by_cases e : q' = y + 1
    · subst e; rw [setF_at]; exact hb
    · rw [gi_set (by omega) hy (by omega)]; exact h.2.2 q' (by omega)
theorem Gok.next {f : Nat → Int} (h : Gok A B u n v m x m f) (hx : x + 1 < n) : Gok A B u n v m (x + 1) 0 f := by
  refine ⟨h.1, fun p' q' hp hq => ?_, fun q' hq => ?_⟩
  · by_cases e : p' = x + 1
    · subst e; exact h.2.2 q' hq
    · exact h.2.1 p' q' (by omega) hq
  · obtain rfl : q' = 0 := by omega
    rw [h.1 _ (by omega), fdI_col]
def Gdone (A B : Nodes) (u n v m x : Nat) (f : Nat → Int) : Prop := (∀ p', p' ≤ n → f (gi m p' 0) = (p' : Int)) ∧ (∀ p' q', p' ≤ x → q' ≤ m → f (gi m p' q') = fdI A B u v p' q')
theorem Gdone.start {f : Nat → Int} (hc : ∀ p', p' ≤ n → f (gi m p' 0) = (p' : Int)) (hr : ∀ q', q' ≤ m → f (gi m 0 q') = (q' : Int)) : Gdone A B u n v m 0 f := by
  refine ⟨hc, fun p' q' hp hq => ?_⟩
  obtain rfl : p' = 0 := by omega
  rw [hr q' hq, fdI_row]
theorem Gdone.open_ {f : Nat → Int} (h : Gdone A B u n v m x f) (hx : x < n) : Gok A B u n v m x 0 f := ⟨h.1, h.2, fun q' hq => by
  obtain rfl : q' = 0 := by omega
  rw [h.1 _ (by omega), fdI_col]⟩
theorem Gok.close {f : Nat → Int} (h : Gok A B u n v m x m f) : Gdone A B u n v m (x + 1) f := ⟨h.1, fun p' q' hp hq => by
  by_cases e : p' = x + 1
  · subst e; exact h.2.2 q' hq
  · exact h.2.1 p' q' (by omega) hq⟩
theorem fdI_le (hk : u + x ≤ 512) (hl : v + y ≤ 512) : fd A B u (u + x) v (v + y) ≤ 1024 := by
  have := (fd_bounds A B _ u (u + x) v (v + y) (Nat.le_refl _)).1
  omega
theorem best_root (h1 : A.lf (u + x) = u) (h2 : B.lf (v + y) = v) : fdI A B u v (x + 1) (y + 1) = min (1 + min ((fd A B u (u + x) v (v + (y + 1)) : Nat) : Int) ((fd A B u (u + (x + 1)) v (v + y) : Nat) : Int)) (((fd A B u (u + x) v (v + y) : Nat) : Int) + ((turn A B (u + x) (v + y) : Nat) : Int)) ∧ td A B (u + x) (v + y) = fd A B u (u + (x + 1)) v (v + (y + 1)) := by
  have q := fd_root A B (x := u + x) (y := v + y)
  rw [h1, h2] at q
  have q2 : fd A B u (u + (x + 1)) v (v + (y + 1)) = min (min (fd A B u (u + x) v (v + (y + 1))) (fd A B u (u + (x + 1)) v (v + y)) + 1) (fd A B u (u + x) v (v + y) + turn A B (u + x) (v + y)) := q
  refine ⟨by unfold fdI; rw [q2]; omega, ?_⟩
  unfold td
  rw [h1, h2]
  rfl
theorem best_parts (h1 : u ≤ A.lf (u + x)) (h2 : v ≤ B.lf (v + y)) : fdI A B u v (x + 1) (y + 1) = min (1 + min ((fd A B u (u + x) v (v + (y + 1)) : Nat) : Int) ((fd A B u (u + (x + 1)) v (v + y) : Nat) : Int)) (((fd A B u (A.lf (u + x)) v (B.lf (v + y)) : Nat) : Int) + ((td A B (u + x) (v + y) : Nat) : Int)) := by
  have q := fd_parts A B (i := u) (x := u + x) (j := v) (y := v + y) h1 h2
  have q2 : fd A B u (u + (x + 1)) v (v + (y + 1)) = min (min (fd A B u (u + x) v (v + (y + 1))) (fd A B u (u + (x + 1)) v (v + y)) + 1) (fd A B u (A.lf (u + x)) v (B.lf (v + y)) + td A B (u + x) (v + y)) := q
  unfold fdI; rw [q2]; omega
end
def Rows (q : Nat → Nat) (n : Nat) : List Nat := (List.range n).map q
theorem mem_Rows {q : Nat → Nat} {n b : Nat} : b ∈ Rows q n ↔ ∃ i, i < n ∧ q i = b := by simp [Rows]
set_option maxHeartbeats 8000000 in
set_option maxRecDepth 10000 in
theorem forest_c (w0 : World) (N0 rb pb : Nat) (q : Nat → Nat) (la : List Str) (fa : List Int) (lb : List Str) (fb : List Int) (Aa Ba Ab Bb : Option Addr) (k1 k2 k3 k4 : Nat) (P0 : Nat → Nat → Int) (hK : Rk w0 N0 rb pb q la fa lb fb Aa Ba Ab Bb k1 k2 k3 k4 P0) (u n v m : Nat) (hN0 : N0 ≤ w0.heap.size) (hka : la.length = fa.length) (hkb : lb.length = fb.length) (hla5 : la.length ≤ 512) (hlb5 : lb.length ≤ 512) (hoa : lfOk fa fa.length) (hob : lfOk fb fb.length) (hun : u + n ≤ la.length) (hvm : v + m ≤ lb.length) (hca : ∀ i, u ≤ i → i < u + n → u ≤ lfN fa i) (hcb : ∀ j, v ≤ j → j < v + m → v ≤ lfN fb j) (hP0 : ∀ i j, u ≤ i → i < u + n → v ≤ j → j < v + m → ¬ (lfN fa i = u ∧ lfN fb j = v) → P0 i j = ((td (nodesT la fa) (nodesT lb fb) i j : Nat) : Int)) : Calls Tryz.prog 32 #[.pointer (some ⟨rb, 0, none⟩), .int .i64 ((u : Nat) : Int), .int .i64 ((u + n : Nat) : Int), .int .i64 ((v : Nat) : Int), .int .i64 ((v + m : Nat) : Int)] w0 (Ret fun v_ w' => ∃ (gb cb' : Nat) (f : Nat → Int) (P : Nat → Nat → Int), v_ = .pointer (some ⟨gb, 0, none⟩) ∧ w'.heap[gb]? = some (.cells #[.int .i64 ((m + 1 : Nat) : Int), .slice (some ⟨cb', 0, none⟩) ((n + 1) * (m + 1)) ((n + 1) * (m + 1))] 84) ∧ w'.heap[cb']? = some (.cells (intsA ((n + 1) * (m + 1)) f) 3) ∧ f (gi m n m) = fdI (nodesT la fa) (nodesT lb fb) u v n m ∧ Rk w' N0 rb pb q la fa lb fb Aa Ba Ab Bb k1 k2 k3 k4 P ∧ (∀ i j, Rt fa fb u n v m i j → P i j = ((td (nodesT la fa) (nodesT lb fb) i j : Nat) : Int)) ∧ (∀ i j, ¬ Rt fa fb u n v m i j → P i j = P0 i j) ∧ w0.heap.size ≤ gb ∧ w0.heap.size ≤ cb' ∧ Same (Rows q la.length) w0 w') := by
 refine calls_start Tryz.func32 rfl Tryz.ntmps32 (Nat.le_of_ble_eq_true rfl) (args_5 _ _ _ _ _) ?_
 have hF := FR.start w0 (Rows q la.length)
 refine c_seq (c_region (o_val (x_assign rfl) (o_nil (e_seq (c_seq (c_region (o_val (x_move rfl) (o_val (x_move rfl) (o_val (v := .int .i64 ((n : Nat))) (x_sub rfl rfl (wrap_to (by omega) (by omega) (by omega))) (o_val (x_move rfl) (o_val (x_move rfl) (o_val (v := .int .i64 ((m : Nat))) (x_sub rfl rfl (wrap_to (by omega) (by omega) (by omega))) ?_))))))))))))
 refine o_call (newGrid_c _ n m (by omega) (by omega)) (x_call2 en_56 rfl rfl rfl) ?_
 rintro _ w ⟨gb, cb, rfl, hg_, hc_, hgN, hcN, hgc, hE⟩
 replace hF := hF.ext hE
 replace hK := hK.ext hE
 have hgs := hgN
 have hcs := hcN
 replace hF := (hF.adopt hc_ hcN (by simp)).adopt hg_ hgN (by intro z hz; obtain rfl := List.mem_singleton.1 hz; exact fun e => hgc e.symm)
 have hcbN : N0 ≤ cb := by omega
 have hgbN : N0 ≤ gb := by omega
 clear hE hg_ hc_
 refine o_val (x_assign rfl) (o_nil (e_seq (c_seq (c_seq (c_region (o_val (x_move rfl) (o_val (x_assign rfl) (o_nil (e_seq (c_block ?_))))))))))
 refine c_loop (fun μ σ w => ∃ (x : Nat), ∃ (f : Nat → Int), μ = n - x ∧ (x ≤ n) ∧ (∀ p', p' ≤ x → f (gi m p' 0) = (p' : Int)) ∧ (Rk w N0 rb pb q la fa lb fb Aa Ba Ab Bb k1 k2 k3 k4 P0) ∧ AllEq σ [(0, .pointer (some ⟨rb, 0, none⟩)), (1, .int .i64 ((u : Nat))), (2, .int .i64 (((u + n : Nat) : Int))), (3, .int .i64 ((v : Nat))), (4, .int .i64 (((v + m : Nat) : Int))), (11, .pointer (some ⟨gb, 0, none⟩)), (12, .int .i64 (((u + x : Nat) : Int)))] ∧ FR w0 (Rows q la.length) [(gb, .cells #[.int .i64 (((m + 1 : Nat) : Int)), .slice (some ⟨cb, 0, none⟩) (((n + 1) * (m + 1))) (((n + 1) * (m + 1)))] 84), (cb, .cells (intsA (((n + 1) * (m + 1))) (f)) 3)] w) _ ⟨0, (fun _ => 0), rfl, (Nat.zero_le _), (fun p' hp => by obtain rfl : p' = 0 := (by omega); rfl), (hK), ⟨rfl, rfl, rfl, rfl, rfl, rfl, rfl, trivial⟩, hF⟩ ?_
 clear hF; rintro μ σ w ⟨x, f, rfl, hx, hc_, hK, hs, hF⟩
 refine Cg.slots hs ?_
 clear hs; intro σ
 refine c_seq (c_seq (c_region (o_val (x_move rfl) (o_val (x_move rfl) (o_val (v := .bool (decide ((((u + x : Nat) : Int) : Int) < (((u + n : Nat) : Int) : Int)))) (x_lss rfl rfl) (o_nil (e_seq ?_)))))))
 refine c_splitd (d := 31) (p := (((u + x : Nat) : Int) : Int) < (((u + n : Nat) : Int) : Int)) rfl (fun hc0 => ?_) (fun hc0 => ?_)
 refine c_ift rfl (c_skip (e_seq (c_seq (c_block (c_region (o_val (x_move rfl) (o_val (x_move rfl) (o_val (x_move rfl) (o_val (v := .int .i64 ((x : Nat))) (x_sub rfl rfl (wrap_to (by omega) (by omega) (by omega))) ?_)))))))))
 refine o_call (gat_c _ gb cb n m (x + 1) (0) _ _ (by omega) (by omega) (hF.heap (i := 0) rfl) (by omega) (by omega) (by omega) (by omega)) (x_call3 en_33 rfl rfl rfl rfl) ?_
 rintro _ w ⟨rfl, hE⟩
 replace hF := hF.ext hE
 replace hK := hK.ext hE
 clear hE
 refine o_val (x_move rfl) (o_val (x_move rfl) (o_val (v := .int .i64 ((x : Nat))) (x_sub rfl rfl (wrap_to (by omega) (by omega) (by omega))) (o_val (v := .int .i64 (((x + 1 : Nat) : Int))) (x_add rfl rfl (wrap_to (by omega) (by omega) (by omega))) (o_val (v := .pointer (some ⟨cb, gi m (x + 1) (0), none⟩)) (x_nilCheck rfl) ?_))))
 refine o_store 1 (l := [.int .i64 (((x + 1 : Nat) : Int))]) (cs' := intsA (((n + 1) * (m + 1))) (setF (f) (gi m (x + 1) (0)) (((x + 1 : Nat) : Int)))) hF Tryz.sizeOf3 rfl (v := .int .i64 (((x + 1 : Nat) : Int))) rfl rfl (by simp [one]) rfl (by rw [intsA_size]; simp only [List.length_singleton]; exact Nat.succ_le_of_lt (gi_lt (by omega) (by omega))) (intsA_put _) ?_
 clear hF; intro w hF hE
 replace hK := hK.step hE (by simpa using hcbN)
 clear hE
 replace hF : FR w0 (Rows q la.length) [(gb, .cells #[.int .i64 (((m + 1 : Nat) : Int)), .slice (some ⟨cb, 0, none⟩) (((n + 1) * (m + 1))) (((n + 1) * (m + 1)))] 84), (cb, .cells (intsA (((n + 1) * (m + 1))) (setF (f) (gi m (x + 1) (0)) (((x + 1 : Nat) : Int)))) 3)] w := hF
 refine o_nil (e_block (e_seq (c_region (o_val (x_move rfl) (o_val (v := .int .i64 (((u + (x + 1) : Nat) : Int))) (x_add rfl rfl (wrap_to (by omega) (by omega) (by omega))) (o_val (x_assign rfl) (o_nil ?_)))))))
 refine e_inv ⟨_, ?_, x + 1, (setF (f) (gi m (x + 1) (0)) (((x + 1 : Nat) : Int))), rfl, (by omega), (col_step hc_), (hK), ⟨rfl, rfl, rfl, rfl, rfl, rfl, rfl, trivial⟩, hF⟩
 omega
 refine c_iff rfl ?_
 refine c_exit (e_exit rfl ?_)
 refine e_seq (c_seq (c_seq (c_region (o_val (x_move rfl) (o_val (x_assign rfl) (o_nil (e_seq (c_block ?_))))))))
 refine c_loop (fun μ σ w => ∃ (y : Nat), ∃ (f : Nat → Int), μ = m - y ∧ (y ≤ m) ∧ (∀ p', p' ≤ n → f (gi m p' 0) = (p' : Int)) ∧ (∀ q', q' ≤ y → f (gi m 0 q') = (q' : Int)) ∧ (Rk w N0 rb pb q la fa lb fb Aa Ba Ab Bb k1 k2 k3 k4 P0) ∧ AllEq σ [(0, .pointer (some ⟨rb, 0, none⟩)), (1, .int .i64 ((u : Nat))), (2, .int .i64 (((u + n : Nat) : Int))), (3, .int .i64 ((v : Nat))), (4, .int .i64 (((v + m : Nat) : Int))), (11, .pointer (some ⟨gb, 0, none⟩)), (13, .int .i64 (((v + y : Nat) : Int)))] ∧ FR w0 (Rows q la.length) [(gb, .cells #[.int .i64 (((m + 1 : Nat) : Int)), .slice (some ⟨cb, 0, none⟩) (((n + 1) * (m + 1))) (((n + 1) * (m + 1)))] 84), (cb, .cells (intsA (((n + 1) * (m + 1))) (f)) 3)] w) _ ⟨0, f, rfl, (Nat.zero_le _), (fun p' hp => hc_ p' (by omega)), (fun q' hq => by obtain rfl : q' = 0 := (by omega); exact hc_ 0 (by omega)), (hK), ⟨rfl, rfl, rfl, rfl, rfl, rfl, rfl, trivial⟩, hF⟩ ?_
 clear hF; rintro μ σ w ⟨y, f, rfl, hy, hc_, hr_, hK, hs, hF⟩
 refine Cg.slots hs ?_
 clear hs; intro σ
 refine c_seq (c_seq (c_region (o_val (x_move rfl) (o_val (x_move rfl) (o_val (v := .bool (decide ((((v + y : Nat) : Int) : Int) < (((v + m : Nat) : Int) : Int)))) (x_lss rfl rfl) (o_nil (e_seq ?_)))))))
 refine c_splitd (d := 47) (p := (((v + y : Nat) : Int) : Int) < (((v + m : Nat) : Int) : Int)) rfl (fun hc1 => ?_) (fun hc1 => ?_)
 refine c_ift rfl (c_skip (e_seq (c_seq (c_block (c_region (o_val (x_move rfl) (o_val (x_move rfl) (o_val (x_move rfl) (o_val (v := .int .i64 ((y : Nat))) (x_sub rfl rfl (wrap_to (by omega) (by omega) (by omega))) ?_)))))))))
 refine o_call (gat_c _ gb cb n m (0) (y + 1) _ _ (by omega) (by omega) (hF.heap (i := 0) rfl) (by omega) (by omega) (by omega) (by omega)) (x_call3 en_33 rfl rfl rfl rfl) ?_
 rintro _ w ⟨rfl, hE⟩
 replace hF := hF.ext hE
 replace hK := hK.ext hE
 clear hE
 refine o_val (x_move rfl) (o_val (x_move rfl) (o_val (v := .int .i64 ((y : Nat))) (x_sub rfl rfl (wrap_to (by omega) (by omega) (by omega))) (o_val (v := .int .i64 (((y + 1 : Nat) : Int))) (x_add rfl rfl (wrap_to (by omega) (by omega) (by omega))) (o_val (v := .pointer (some ⟨cb, gi m (0) (y + 1), none⟩)) (x_nilCheck rfl) ?_))))
 refine o_store 1 (l := [.int .i64 (((y + 1 : Nat) : Int))]) (cs' := intsA (((n + 1) * (m + 1))) (setF (f) (gi m (0) (y + 1)) (((y + 1 : Nat) : Int)))) hF Tryz.sizeOf3 rfl (v := .int .i64 (((y + 1 : Nat) : Int))) rfl rfl (by simp [one]) rfl (by rw [intsA_size]; simp only [List.length_singleton]; exact Nat.succ_le_of_lt (gi_lt (by omega) (by omega))) (intsA_put _) ?_
 clear hF; intro w hF hE
 replace hK := hK.step hE (by simpa using hcbN)
 clear hE
 replace hF : FR w0 (Rows q la.length) [(gb, .cells #[.int .i64 (((m + 1 : Nat) : Int)), .slice (some ⟨cb, 0, none⟩) (((n + 1) * (m + 1))) (((n + 1) * (m + 1)))] 84), (cb, .cells (intsA (((n + 1) * (m + 1))) (setF (f) (gi m (0) (y + 1)) (((y + 1 : Nat) : Int)))) 3)] w := hF
 refine o_nil (e_block (e_seq (c_region (o_val (x_move rfl) (o_val (v := .int .i64 (((v + (y + 1) : Nat) : Int))) (x_add rfl rfl (wrap_to (by omega) (by omega) (by omega))) (o_val (x_assign rfl) (o_nil ?_)))))))
 refine e_inv ⟨_, ?_, y + 1, (setF (f) (gi m (0) (y + 1)) (((y + 1 : Nat) : Int))), rfl, (by omega), (row_col (by omega) hc_), (row_step (by omega) hr_), (hK), ⟨rfl, rfl, rfl, rfl, rfl, rfl, rfl, trivial⟩, hF⟩
 omega
 refine c_iff rfl ?_
 refine c_exit (e_exit rfl ?_)
 refine e_seq (c_seq (c_seq (c_region (o_val (x_move rfl) (o_val (x_assign rfl) (o_nil (e_seq (c_block ?_))))))))
 refine c_loop (fun μ σ w => ∃ (x : Nat), ∃ (f : Nat → Int), ∃ (P : Nat → Nat → Int), μ = n - x ∧ (x ≤ n) ∧ (Gdone (nodesT la fa) (nodesT lb fb) u n v m x f) ∧ (Fok (nodesT la fa) (nodesT lb fb) fa fb u n v m x 0 P0 P) ∧ (Rk w N0 rb pb q la fa lb fb Aa Ba Ab Bb k1 k2 k3 k4 P) ∧ AllEq σ [(0, .pointer (some ⟨rb, 0, none⟩)), (1, .int .i64 ((u : Nat))), (2, .int .i64 (((u + n : Nat) : Int))), (3, .int .i64 ((v : Nat))), (4, .int .i64 (((v + m : Nat) : Int))), (11, .pointer (some ⟨gb, 0, none⟩)), (14, .int .i64 (((u + x : Nat) : Int)))] ∧ FR w0 (Rows q la.length) [(gb, .cells #[.int .i64 (((m + 1 : Nat) : Int)), .slice (some ⟨cb, 0, none⟩) (((n + 1) * (m + 1))) (((n + 1) * (m + 1)))] 84), (cb, .cells (intsA (((n + 1) * (m + 1))) (f)) 3)] w) _ ⟨0, f, P0, rfl, (Nat.zero_le _), (Gdone.start hc_ (fun q' hq => hr_ q' (by omega))), (Fok.start), (hK), ⟨rfl, rfl, rfl, rfl, rfl, rfl, rfl, trivial⟩, hF⟩ ?_
 clear hF; rintro μ σ w ⟨x, f, P, rfl, hx, hD_, hP, hK, hs, hF⟩
 refine Cg.slots hs ?_
 clear hs; intro σ
 refine c_seq (c_seq (c_region (o_val (x_move rfl) (o_val (x_move rfl) (o_val (v := .bool (decide ((((u + x : Nat) : Int) : Int) < (((u + n : Nat) : Int) : Int)))) (x_lss rfl rfl) (o_nil (e_seq ?_)))))))
 refine c_splitd (d := 63) (p := (((u + x : Nat) : Int) : Int) < (((u + n : Nat) : Int) : Int)) rfl (fun hc2 => ?_) (fun hc2 => ?_)
 refine c_ift rfl (c_skip (e_seq (c_seq (c_block (c_seq (c_region (o_val (x_move rfl) (o_val (x_assign rfl) (o_nil (e_seq (c_block ?_)))))))))))
 refine c_loop (fun μ σ w => ∃ (y : Nat), ∃ (f : Nat → Int), ∃ (P : Nat → Nat → Int), μ = m - y ∧ (y ≤ m) ∧ (Gok (nodesT la fa) (nodesT lb fb) u n v m x y f) ∧ (Fok (nodesT la fa) (nodesT lb fb) fa fb u n v m x y P0 P) ∧ (Rk w N0 rb pb q la fa lb fb Aa Ba Ab Bb k1 k2 k3 k4 P) ∧ AllEq σ [(0, .pointer (some ⟨rb, 0, none⟩)), (1, .int .i64 ((u : Nat))), (2, .int .i64 (((u + n : Nat) : Int))), (3, .int .i64 ((v : Nat))), (4, .int .i64 (((v + m : Nat) : Int))), (11, .pointer (some ⟨gb, 0, none⟩)), (14, .int .i64 (((u + x : Nat) : Int))), (15, .int .i64 (((v + y : Nat) : Int)))] ∧ FR w0 (Rows q la.length) [(gb, .cells #[.int .i64 (((m + 1 : Nat) : Int)), .slice (some ⟨cb, 0, none⟩) (((n + 1) * (m + 1))) (((n + 1) * (m + 1)))] 84), (cb, .cells (intsA (((n + 1) * (m + 1))) (f)) 3)] w) _ ⟨0, f, P, rfl, (Nat.zero_le _), (Gdone.open_ hD_ (by omega)), (hP), (hK), ⟨rfl, rfl, rfl, rfl, rfl, rfl, rfl, rfl, trivial⟩, hF⟩ ?_
 clear hF; rintro μ σ w ⟨y, f, P, rfl, hy, hG_, hP, hK, hs, hF⟩
 refine Cg.slots hs ?_
 clear hs; intro σ
 refine c_seq (c_seq (c_region (o_val (x_move rfl) (o_val (x_move rfl) (o_val (v := .bool (decide ((((v + y : Nat) : Int) : Int) < (((v + m : Nat) : Int) : Int)))) (x_lss rfl rfl) (o_nil (e_seq ?_)))))))
 refine c_splitd (d := 69) (p := (((v + y : Nat) : Int) : Int) < (((v + m : Nat) : Int) : Int)) rfl (fun hc3 => ?_) (fun hc3 => ?_)
 refine c_ift rfl (c_skip (e_seq (c_seq (c_block (c_seq (c_region (o_val (x_move rfl) (o_val (x_move rfl) (o_val (v := .int .i64 ((x : Nat))) (x_sub rfl rfl (wrap_to (by omega) (by omega) (by omega))) (o_val (x_move rfl) (o_val (x_move rfl) (o_val (v := .int .i64 ((y : Nat))) (x_sub rfl rfl (wrap_to (by omega) (by omega) (by omega))) (o_val (x_assign rfl) ?_)))))))))))))
 refine o_val (x_assign rfl) (o_nil (e_seq (c_seq ?_)))
 have hbx : u + x < fa.length ∧ v + y < fb.length := by omega
 obtain ⟨d1, hd1⟩ : ∃ d, d = fd (nodesT la fa) (nodesT lb fb) u (u + x) v (v + (y + 1)) := ⟨_, rfl⟩
 obtain ⟨d2, hd2⟩ : ∃ d, d = fd (nodesT la fa) (nodesT lb fb) u (u + (x + 1)) v (v + y) := ⟨_, rfl⟩
 obtain ⟨d3, hd3⟩ : ∃ d, d = fd (nodesT la fa) (nodesT lb fb) u (u + x) v (v + y) := ⟨_, rfl⟩
 have hv1 : f (gi m x (y + 1)) = (d1 : Int) := by rw [hd1]; exact hG_.2.1 _ _ (Nat.le_refl _) (by omega)
 have hv2 : f (gi m (x + 1) y) = (d2 : Int) := by rw [hd2]; exact hG_.2.2 _ (Nat.le_refl _)
 have hv3 : f (gi m x y) = (d3 : Int) := by rw [hd3]; exact hG_.2.1 _ _ (Nat.le_refl _) (by omega)
 have hm1 : d1 ≤ 1024 := by rw [hd1]; exact fdI_le (by omega) (by omega)
 have hm2 : d2 ≤ 1024 := by rw [hd2]; exact fdI_le (by omega) (by omega)
 have hm3 : d3 ≤ 1024 := by rw [hd3]; exact fdI_le (by omega) (by omega)
 obtain ⟨lu, hlu⟩ : ∃ z, z = lfN fa (u + x) := ⟨_, rfl⟩
 obtain ⟨lv, hlv⟩ : ∃ z, z = lfN fb (v + y) := ⟨_, rfl⟩
 have hla : fa[u + x] = (lu : Int) := by rw [hlu]; exact (hoa.at (by omega) (by omega)).symm
 have hlb : fb[v + y] = (lv : Int) := by rw [hlv]; exact (hob.at (by omega) (by omega)).symm
 have hlu1 : u ≤ lu ∧ lu ≤ u + x := ⟨by rw [hlu]; exact hca _ (by omega) (by omega), by rw [hlu]; exact Nat.min_le_right _ _⟩
 have hlv1 : v ≤ lv ∧ lv ≤ v + y := ⟨by rw [hlv]; exact hcb _ (by omega) (by omega), by rw [hlv]; exact Nat.min_le_right _ _⟩
 obtain ⟨ada, hAda⟩ := int_ad hK.Na (by omega)
 obtain ⟨adb, hAdb⟩ := int_ad hK.Nb (by omega)
 refine c_drawF [] (.free 0 (.free 1 (.free 2 (.free 3 (.free 7 (.free 8 (.free 9 (.free 10 (.act 4 (.free 5 (.free 6 (.act 11 (.free 12 (.free 13 (.free 14 (.free 15 (.free 16 .nil))))))))))))))))) (by kernel_rfl) hF (by kernel_rfl) (by kernel_rfl) ?_
 clear hF; intro w hF hE
 replace hK := hK.ext hE
 clear hE
 refine ⟨fun wq => FR w0 (Rows q la.length) [(gb, .cells #[.int .i64 (((m + 1 : Nat) : Int)), .slice (some ⟨cb, 0, none⟩) (((n + 1) * (m + 1))) (((n + 1) * (m + 1)))] 84), (cb, .cells (intsA (((n + 1) * (m + 1))) (f)) 3)] wq, hF, ?_⟩
 refine f_free rfl (v := .pointer (some ⟨gb, 0, none⟩)) (fun w hC => x_move rfl) (f_free rfl (v := .int .i64 ((x : Nat))) (fun w hC => x_move rfl) (f_free rfl (v := .int .i64 (((x : Nat) : Int) - 1)) (fun w hC => x_sub rfl rfl (wrap_id (by omega) (by omega))) (f_free rfl (v := .int .i64 ((y : Nat))) (fun w hC => x_move rfl) (f_free rfl (v := .pointer (some ⟨gb, 0, none⟩)) (fun w hC => x_move rfl) (f_free rfl (v := .int .i64 ((x : Nat))) (fun w hC => x_move rfl) (f_free rfl (v := .int .i64 ((y : Nat))) (fun w hC => x_move rfl) (f_free rfl (v := .int .i64 (((y : Nat) : Int) - 1)) (fun w hC => x_sub rfl rfl (wrap_id (by omega) (by omega))) ?_)))))))
 refine f_call rfl (gat_c _ gb cb n m (x) (y + 1) _ _ (by omega) (by omega) (hF.heap (i := 0) rfl) (by omega) (by omega) (by omega) (by omega)) (x_call3 en_33 rfl rfl rfl rfl) ?_
 rintro _ w ⟨rfl, hE⟩
 replace hF := hF.ext hE
 replace hK := hK.ext hE
 clear hE
 refine ⟨hF, ?_⟩
 refine f_free rfl (v := .pointer (some ⟨cb, gi m (x) (y + 1), none⟩)) (fun w hC => x_nilCheck rfl) ?_
 refine f_free rfl (v := .int .i64 ((d1 : Nat))) (fun w hC => x_load Tryz.isAgg3 rfl (by rw [← hv1]; exact hC.intCell 1 rfl (gi_lt (by omega) (by omega)))) ?_
 refine f_call rfl (gat_c _ gb cb n m (x + 1) (y) _ _ (by omega) (by omega) (hF.heap (i := 0) rfl) (by omega) (by omega) (by omega) (by omega)) (x_call3 en_33 rfl rfl rfl rfl) ?_
 rintro _ w ⟨rfl, hE⟩
 replace hF := hF.ext hE
 replace hK := hK.ext hE
 clear hE
 refine ⟨hF, ?_⟩
 refine f_free rfl (v := .pointer (some ⟨cb, gi m (x + 1) (y), none⟩)) (fun w hC => x_nilCheck rfl) ?_
 refine f_free rfl (v := .int .i64 ((d2 : Nat))) (fun w hC => x_load Tryz.isAgg3 rfl (by rw [← hv2]; exact hC.intCell 1 rfl (gi_lt (by omega) (by omega)))) ?_
 refine f_free rfl (v := .int .i64 (min ((d1 : Nat) : Int) ((d2 : Nat) : Int))) (fun w hC => x_min rfl rfl) (f_free rfl (v := .int .i64 ((1 : Int) + min ((d1 : Nat) : Int) ((d2 : Nat) : Int))) (fun w hC => x_add rfl rfl (wrap_id (by omega) (by omega))) (f_free rfl (v := .int .i64 ((1 : Int) + min ((d1 : Nat) : Int) ((d2 : Nat) : Int))) (fun w hC => x_assign rfl) (d_nil (e_seq (c_seq ?_)))))
 refine c_drawF [] (.free 0 (.free 1 (.free 2 (.free 3 (.free 4 (.free 5 (.free 6 (.free 7 (.free 8 (.free 9 (.free 10 (.free 11 (.free 12 (.free 13 (.free 14 (.free 15 (.free 16 (.free 17 .nil)))))))))))))))))) (by kernel_rfl) hF (by kernel_rfl) (by kernel_rfl) ?_
 clear hF; intro w hF hE
 replace hK := hK.ext hE
 clear hE
 refine ⟨fun wq => FR w0 (Rows q la.length) [(gb, .cells #[.int .i64 (((m + 1 : Nat) : Int)), .slice (some ⟨cb, 0, none⟩) (((n + 1) * (m + 1))) (((n + 1) * (m + 1)))] 84), (cb, .cells (intsA (((n + 1) * (m + 1))) (f)) 3)] wq ∧ Rk wq N0 rb pb q la fa lb fb Aa Ba Ab Bb k1 k2 k3 k4 P, ⟨hF, hK⟩, ?_⟩
 refine f_free rfl (v := .pointer (some ⟨rb, 0, none⟩)) (fun w hC => x_move rfl) (f_free rfl (v := .pointer (some ⟨rb, 0, none⟩)) (fun w hC => x_nilCheck rfl) (f_free rfl (v := .pointer (some ⟨rb, 0, none⟩)) (fun w hC => x_fieldAddrO fa_69_0 rfl) (f_free rfl (v := .pointer (some ⟨rb, 1, none⟩)) (fun w hC => x_fieldAddrO fa_30_1 rfl) (f_free rfl (v := .slice (Ba) (fa.length) (k2)) (fun w hC => x_load Tryz.isAgg28 rfl hC.2.c1) (f_free rfl (v := .int .i64 (((u + x : Nat) : Int))) (fun w hC => x_move rfl) (f_free rfl (v := .pointer (some (ada.add ((u + x) * 1)))) (fun w hC => x_indexAddrA (i := ((u + x : Nat) : Int)) sl_28 rfl hAda rfl (by omega) (by omega)) ?_))))))
 refine f_free rfl (v := .int .i64 ((lu : Nat))) (fun w hC => x_load Tryz.isAgg3 rfl (by rw [← hla]; exact int_at hC.2.Na hAda (by omega))) ?_
 refine f_free rfl (v := .pointer (some ⟨rb, 0, none⟩)) (fun w hC => x_move rfl) (f_free rfl (v := .pointer (some ⟨rb, 0, none⟩)) (fun w hC => x_nilCheck rfl) (f_free rfl (v := .pointer (some ⟨rb, 2, none⟩)) (fun w hC => x_fieldAddrO fa_69_1 rfl) (f_free rfl (v := .pointer (some ⟨rb, 3, none⟩)) (fun w hC => x_fieldAddrO fa_30_1 rfl) (f_free rfl (v := .slice (Bb) (fb.length) (k4)) (fun w hC => x_load Tryz.isAgg28 rfl hC.2.c3) (f_free rfl (v := .int .i64 (((v + y : Nat) : Int))) (fun w hC => x_move rfl) (f_free rfl (v := .pointer (some (adb.add ((v + y) * 1)))) (fun w hC => x_indexAddrA (i := ((v + y : Nat) : Int)) sl_28 rfl hAdb rfl (by omega) (by omega)) ?_))))))
 refine f_free rfl (v := .int .i64 ((lv : Nat))) (fun w hC => x_load Tryz.isAgg3 rfl (by rw [← hlb]; exact int_at hC.2.Nb hAdb (by omega))) ?_
 refine f_free rfl (v := .int .i64 ((lu : Nat))) (fun w hC => x_assign rfl) (f_free rfl (v := .int .i64 ((lv : Nat))) (fun w hC => x_assign rfl) (d_nil (e_seq (c_seq (c_seq (c_region (o_val (x_move rfl) (o_val (x_move rfl) (o_val (v := .bool (decide (((lu : Nat) : Int) = ((u : Nat) : Int)))) (x_eql rfl rfl) (o_val (x_move rfl) ?_))))))))))
 refine o_splitd (d := 113) (p := ((lu : Nat) : Int) = ((u : Nat) : Int)) rfl (fun hg0 => ?_) (fun hg0 => ?_)
 refine o_val (x_move rfl) (o_val (x_move rfl) (o_val (v := .bool (decide (((lv : Nat) : Int) = ((v : Nat) : Int)))) (x_eql rfl rfl) (o_val (x_pickt rfl rfl) (o_nil (e_seq ?_)))))
 refine c_splitd (d := 117) (p := ((lv : Nat) : Int) = ((v : Nat) : Int)) rfl (fun hc4 => ?_) (fun hc4 => ?_)
 refine c_ift rfl (c_seq ?_)
 obtain ⟨tt, htt⟩ : ∃ z, z = turn (nodesT la fa) (nodesT lb fb) (u + x) (v + y) := ⟨_, rfl⟩
 have htt1 : tt ≤ 1 := by rw [htt]; unfold turn; split <;> omega
 have hr1 : lfN fa (u + x) = u ∧ lfN fb (v + y) = v := by omega
 have hbest := best_root (A := nodesT la fa) (B := nodesT lb fb) (u := u) (v := v) (x := x) (y := y) hr1.1 hr1.2
 rw [← hd1, ← hd2, ← hd3, ← htt] at hbest
 refine c_drawF [] (.free 0 (.free 1 (.free 2 (.free 3 (.free 4 (.free 5 (.free 9 (.free 10 (.free 11 (.act 6 (.free 7 (.free 8 (.act 12 (.free 13 (.free 14 (.free 15 .nil)))))))))))))))) (by kernel_rfl) hF (by kernel_rfl) (by kernel_rfl) ?_
 clear hF; intro w hF hE
 replace hK := hK.ext hE
 clear hE
 refine ⟨fun wq => FR w0 (Rows q la.length) [(gb, .cells #[.int .i64 (((m + 1 : Nat) : Int)), .slice (some ⟨cb, 0, none⟩) (((n + 1) * (m + 1))) (((n + 1) * (m + 1)))] 84), (cb, .cells (intsA (((n + 1) * (m + 1))) (f)) 3)] wq, hF, ?_⟩
 refine f_free rfl (v := .int .i64 ((1 : Int) + min ((d1 : Nat) : Int) ((d2 : Nat) : Int))) (fun w hC => x_move rfl) (f_free rfl (v := .pointer (some ⟨gb, 0, none⟩)) (fun w hC => x_move rfl) (f_free rfl (v := .int .i64 ((x : Nat))) (fun w hC => x_move rfl) (f_free rfl (v := .int .i64 (((x : Nat) : Int) - 1)) (fun w hC => x_sub rfl rfl (wrap_id (by omega) (by omega))) (f_free rfl (v := .int .i64 ((y : Nat))) (fun w hC => x_move rfl) (f_free rfl (v := .int .i64 (((y : Nat) : Int) - 1)) (fun w hC => x_sub rfl rfl (wrap_id (by omega) (by omega))) (f_free rfl (v := .pointer (some ⟨rb, 0, none⟩)) (fun w hC => x_move rfl) (f_free rfl (v := .int .i64 (((u + x : Nat) : Int))) (fun w hC => x_move rfl) (f_free rfl (v := .int .i64 (((v + y : Nat) : Int))) (fun w hC => x_move rfl) ?_))))))))
 refine f_call rfl (gat_c _ gb cb n m (x) (y) _ _ (by omega) (by omega) (hF.heap (i := 0) rfl) (by omega) (by omega) (by omega) (by omega)) (x_call3 en_33 rfl rfl rfl rfl) ?_
 rintro _ w ⟨rfl, hE⟩
 replace hF := hF.ext hE
 replace hK := hK.ext hE
 clear hE
 refine ⟨hF, ?_⟩
 refine f_free rfl (v := .pointer (some ⟨cb, gi m (x) (y), none⟩)) (fun w hC => x_nilCheck rfl) ?_
 refine f_free rfl (v := .int .i64 ((d3 : Nat))) (fun w hC => x_load Tryz.isAgg3 rfl (by rw [← hv3]; exact hC.intCell 1 rfl (gi_lt (by omega) (by omega)))) ?_
 refine f_call rfl (ret_eq (turn_c _ N0 rb pb q la fa lb fb Aa Ba Ab Bb k1 k2 k3 k4 P hK (u + x) (v + y) (by omega) (by omega) (by omega) (by omega)) (by rw [← htt])) (x_call3 en_57 rfl rfl rfl rfl) ?_
 rintro _ w ⟨rfl, hE⟩
 replace hF := hF.ext hE
 replace hK := hK.ext hE
 clear hE
 refine ⟨hF, ?_⟩
 refine f_free rfl (v := .int .i64 (((d3 : Nat) : Int) + (tt : Nat))) (fun w hC => x_add rfl rfl (wrap_id (by omega) (by omega))) (f_free rfl (v := .int .i64 (min ((1 : Int) + min ((d1 : Nat) : Int) ((d2 : Nat) : Int) : Int) (((d3 : Nat) : Int) + (tt : Nat) : Int))) (fun w hC => x_min rfl rfl) (f_free rfl (v := .int .i64 (min ((1 : Int) + min ((d1 : Nat) : Int) ((d2 : Nat) : Int) : Int) (((d3 : Nat) : Int) + (tt : Nat) : Int))) (fun w hC => x_assign rfl) (d_nil (e_seq (c_region (o_val (x_move rfl) (o_val (v := .pointer (some ⟨rb, 0, none⟩)) (x_nilCheck rfl) (o_val (v := .pointer (some ⟨rb, 4, none⟩)) (x_fieldAddrO fa_69_2 rfl) (o_val (v := .slice (some ⟨pb, 0, none⟩) (la.length) (la.length)) (x_load Tryz.isAgg44 rfl hK.c4) (o_val (x_move rfl) (o_val (v := .pointer (some ⟨pb, u + x, none⟩)) (x_indexAddrO (i := ((u + x : Nat) : Int)) (u + x) sl_44 rfl rfl (by omega) (by omega) (by omega)) (o_val (v := .slice (some ⟨q (u + x), 0, none⟩) (lb.length) (lb.length)) (x_load Tryz.isAgg28 rfl (hK.grid.rowCell (by omega))) (o_val (x_move rfl) ?_)))))))))))))
 refine o_val (x_move rfl) (o_val (v := .pointer (some ⟨q (u + x), v + y, none⟩)) (x_indexAddrO (i := ((v + y : Nat) : Int)) (v + y) sl_28 rfl rfl (by omega) (by omega) (by omega)) ?_)
 refine o_storeI hF Tryz.sizeOf3 rfl rfl (hK.grid.row (u + x) (by omega)) (by omega) (mem_Rows.2 ⟨u + x, by omega, rfl⟩) (by intro z hz; have hqz := hK.lt.2.2 (u + x) (by omega); simp only [List.mem_cons, List.not_mem_nil, or_false] at hz; rcases hz with rfl | rfl <;> (simp only; omega)) ?_
 clear hF; intro w hF hE hnew
 replace hK := hK.put (by omega) hE hnew
 clear hE hnew
 refine o_nil (e_seq (c_region (o_val (x_move rfl) (o_val (x_move rfl) (o_val (x_move rfl) ?_)))))
 refine o_call (gat_c _ gb cb n m (x + 1) (y + 1) _ _ (by omega) (by omega) (hF.heap (i := 0) rfl) (by omega) (by omega) (by omega) (by omega)) (x_call3 en_33 rfl rfl rfl rfl) ?_
 rintro _ w ⟨rfl, hE⟩
 replace hF := hF.ext hE
 replace hK := hK.ext hE
 clear hE
 refine o_val (x_move rfl) (o_val (v := .pointer (some ⟨cb, gi m (x + 1) (y + 1), none⟩)) (x_nilCheck rfl) ?_)
 refine o_store 1 (l := [.int .i64 (min ((1 : Int) + min ((d1 : Nat) : Int) ((d2 : Nat) : Int) : Int) (((d3 : Nat) : Int) + (tt : Nat) : Int))]) (cs' := intsA (((n + 1) * (m + 1))) (setF (f) (gi m (x + 1) (y + 1)) (min ((1 : Int) + min ((d1 : Nat) : Int) ((d2 : Nat) : Int) : Int) (((d3 : Nat) : Int) + (tt : Nat) : Int)))) hF Tryz.sizeOf3 rfl (v := .int .i64 (min ((1 : Int) + min ((d1 : Nat) : Int) ((d2 : Nat) : Int) : Int) (((d3 : Nat) : Int) + (tt : Nat) : Int))) rfl rfl (by simp [one]) rfl (by rw [intsA_size]; simp only [List.length_singleton]; exact Nat.succ_le_of_lt (gi_lt (by omega) (by omega))) (intsA_put _) ?_
 clear hF; intro w hF hE
 replace hK := hK.step hE (by simpa using hcbN)
 clear hE
 replace hF : FR w0 (Rows q la.length) [(gb, .cells #[.int .i64 (((m + 1 : Nat) : Int)), .slice (some ⟨cb, 0, none⟩) (((n + 1) * (m + 1))) (((n + 1) * (m + 1)))] 84), (cb, .cells (intsA (((n + 1) * (m + 1))) (setF (f) (gi m (x + 1) (y + 1)) (min ((1 : Int) + min ((d1 : Nat) : Int) ((d2 : Nat) : Int) : Int) (((d3 : Nat) : Int) + (tt : Nat) : Int)))) 3)] w := hF
 refine o_nil (e_block (e_seq (c_region (o_val (x_move rfl) (o_val (v := .int .i64 (((v + (y + 1) : Nat) : Int))) (x_add rfl rfl (wrap_to (by omega) (by omega) (by omega))) (o_val (x_assign rfl) (o_nil ?_)))))))
 refine e_inv ⟨_, ?_, y + 1, (setF (f) (gi m (x + 1) (y + 1)) (min ((1 : Int) + min ((d1 : Nat) : Int) ((d2 : Nat) : Int) : Int) (((d3 : Nat) : Int) + (tt : Nat) : Int))), set2 P (u + x) (v + y) (min ((1 : Int) + min ((d1 : Nat) : Int) ((d2 : Nat) : Int) : Int) (((d3 : Nat) : Int) + (tt : Nat) : Int)), rfl, (by omega), (Gok.put hG_ (by omega) (by rw [hbest.1])), (Fok.put hP ⟨by omega, by omega, by omega, by omega, hr1⟩ (by rw [hbest.2, ← hbest.1]; rfl)), (hK), ⟨rfl, rfl, rfl, rfl, rfl, rfl, rfl, rfl, trivial⟩, hF⟩
 omega
 refine c_iff rfl ?_
 have hr1 : ¬ (lfN fa (u + x) = u ∧ lfN fb (v + y) = v) := by omega
 obtain ⟨d4, hd4⟩ : ∃ d, d = fd (nodesT la fa) (nodesT lb fb) u (lu) v (lv) := ⟨_, rfl⟩
 obtain ⟨d5, hd5⟩ : ∃ d, d = td (nodesT la fa) (nodesT lb fb) (u + x) (v + y) := ⟨_, rfl⟩
 have hv4 : f (gi m (lu - u) (lv - v)) = (d4 : Int) := by have h := hG_.2.1 (lu - u) (lv - v) (by omega) (by omega); rw [h, hd4, fdI, show u + (lu - u) = lu by omega, show v + (lv - v) = lv by omega]
 have hv5 : P (u + x) (v + y) = (d5 : Int) := by rw [hP.2 _ _ (fun h => hr1 h.2.2.2.2), hd5]; exact hP0 _ _ (by omega) (by omega) (by omega) (by omega) hr1
 have hm4 : d4 ≤ 1024 := by rw [hd4]; have := (fd_bounds (nodesT la fa) (nodesT lb fb) _ u lu v lv (Nat.le_refl _)).1; omega
 have hm5 : d5 ≤ 1024 := by rw [hd5]; unfold td; have := (fd_bounds (nodesT la fa) (nodesT lb fb) _ (lfN fa (u + x)) (u + x + 1) (lfN fb (v + y)) (v + y + 1) (Nat.le_refl _)).1; have e1 : (nodesT la fa).lf (u + x) = lfN fa (u + x) := rfl; have e2 : (nodesT lb fb).lf (v + y) = lfN fb (v + y) := rfl; rw [e1, e2]; omega
 have hbest := best_parts (A := nodesT la fa) (B := nodesT lb fb) (u := u) (v := v) (x := x) (y := y) (by show u ≤ lfN fa (u + x); omega) (by show v ≤ lfN fb (v + y); omega)
 have e1 : (nodesT la fa).lf (u + x) = lu := hlu.symm
 have e2 : (nodesT lb fb).lf (v + y) = lv := hlv.symm
 rw [e1, e2, ← hd1, ← hd2, ← hd4, ← hd5] at hbest
 refine c_drawF [] (.free 0 (.free 1 (.free 2 (.free 3 (.free 4 (.free 5 (.free 6 (.free 7 (.free 8 (.free 9 (.free 13 (.free 14 (.free 15 (.free 16 (.free 17 (.free 18 (.free 19 (.free 20 (.free 21 (.free 22 (.act 10 (.free 11 (.free 12 (.free 23 (.free 24 (.free 25 .nil)))))))))))))))))))))))))) (by kernel_rfl) hF (by kernel_rfl) (by kernel_rfl) ?_
 clear hF; intro w hF hE
 replace hK := hK.ext hE
 clear hE
 refine ⟨fun wq => FR w0 (Rows q la.length) [(gb, .cells #[.int .i64 (((m + 1 : Nat) : Int)), .slice (some ⟨cb, 0, none⟩) (((n + 1) * (m + 1))) (((n + 1) * (m + 1)))] 84), (cb, .cells (intsA (((n + 1) * (m + 1))) (f)) 3)] wq ∧ Rk wq N0 rb pb q la fa lb fb Aa Ba Ab Bb k1 k2 k3 k4 P, ⟨hF, hK⟩, ?_⟩
 refine f_free rfl (v := .int .i64 ((1 : Int) + min ((d1 : Nat) : Int) ((d2 : Nat) : Int))) (fun w hC => x_move rfl) (f_free rfl (v := .pointer (some ⟨gb, 0, none⟩)) (fun w hC => x_move rfl) (f_free rfl (v := .int .i64 ((lu : Nat))) (fun w hC => x_move rfl) (f_free rfl (v := .int .i64 ((u : Nat))) (fun w hC => x_move rfl) (f_free rfl (v := .int .i64 (((lu : Nat) : Int) - (u : Nat))) (fun w hC => x_sub rfl rfl (wrap_id (by omega) (by omega))) (f_free rfl (v := .int .i64 ((((lu : Nat) : Int) - (u : Nat) : Int) - 1)) (fun w hC => x_sub rfl rfl (wrap_id (by omega) (by omega))) (f_free rfl (v := .int .i64 ((lv : Nat))) (fun w hC => x_move rfl) (f_free rfl (v := .int .i64 ((v : Nat))) (fun w hC => x_move rfl) (f_free rfl (v := .int .i64 (((lv : Nat) : Int) - (v : Nat))) (fun w hC => x_sub rfl rfl (wrap_id (by omega) (by omega))) (f_free rfl (v := .int .i64 ((((lv : Nat) : Int) - (v : Nat) : Int) - 1)) (fun w hC => x_sub rfl rfl (wrap_id (by omega) (by omega))) (f_free rfl (v := .pointer (some ⟨rb, 0, none⟩)) (fun w hC => x_move rfl) (f_free rfl (v := .pointer (some ⟨rb, 0, none⟩)) (fun w hC => x_nilCheck rfl) (f_free rfl (v := .pointer (some ⟨rb, 4, none⟩)) (fun w hC => x_fieldAddrO fa_69_2 rfl) (f_free rfl (v := .slice (some ⟨pb, 0, none⟩) (la.length) (la.length)) (fun w hC => x_load Tryz.isAgg44 rfl hC.2.c4) ?_)))))))))))))
 refine f_free rfl (v := .int .i64 (((u + x : Nat) : Int))) (fun w hC => x_move rfl) (f_free rfl (v := .pointer (some ⟨pb, u + x, none⟩)) (fun w hC => x_indexAddrO (i := ((u + x : Nat) : Int)) (u + x) sl_44 rfl rfl (by omega) (by omega) (by omega)) (f_free rfl (v := .slice (some ⟨q (u + x), 0, none⟩) (lb.length) (lb.length)) (fun w hC => x_load Tryz.isAgg28 rfl (hC.2.grid.rowCell (by omega))) (f_free rfl (v := .int .i64 (((v + y : Nat) : Int))) (fun w hC => x_move rfl) (f_free rfl (v := .pointer (some ⟨q (u + x), v + y, none⟩)) (fun w hC => x_indexAddrO (i := ((v + y : Nat) : Int)) (v + y) sl_28 rfl rfl (by omega) (by omega) (by omega)) ?_))))
 refine f_free rfl (v := .int .i64 ((d5 : Nat))) (fun w hC => x_load Tryz.isAgg3 rfl (by rw [← hv5]; exact hC.2.grid.cell (by omega) (by omega))) ?_
 refine f_call rfl (gat_c _ gb cb n m (lu - u) (lv - v) _ _ (by omega) (by omega) (hF.heap (i := 0) rfl) (by omega) (by omega) (by omega) (by omega)) (x_call3 en_33 rfl rfl rfl rfl) ?_
 rintro _ w ⟨rfl, hE⟩
 replace hF := hF.ext hE
 replace hK := hK.ext hE
 clear hE
 refine ⟨⟨hF, hK⟩, ?_⟩
 refine f_free rfl (v := .pointer (some ⟨cb, gi m (lu - u) (lv - v), none⟩)) (fun w hC => x_nilCheck rfl) ?_
 refine f_free rfl (v := .int .i64 ((d4 : Nat))) (fun w hC => x_load Tryz.isAgg3 rfl (by rw [← hv4]; exact hC.1.intCell 1 rfl (gi_lt (by omega) (by omega)))) ?_
 refine f_free rfl (v := .int .i64 (((d4 : Nat) : Int) + (d5 : Nat))) (fun w hC => x_add rfl rfl (wrap_id (by omega) (by omega))) (f_free rfl (v := .int .i64 (min ((1 : Int) + min ((d1 : Nat) : Int) ((d2 : Nat) : Int) : Int) (((d4 : Nat) : Int) + (d5 : Nat) : Int))) (fun w hC => x_min rfl rfl) (f_free rfl (v := .int .i64 (min ((1 : Int) + min ((d1 : Nat) : Int) ((d2 : Nat) : Int) : Int) (((d4 : Nat) : Int) + (d5 : Nat) : Int))) (fun w hC => x_assign rfl) (d_nil (e_seq (c_region (o_val (x_move rfl) (o_val (x_move rfl) (o_val (x_move rfl) ?_))))))))
 refine o_call (gat_c _ gb cb n m (x + 1) (y + 1) _ _ (by omega) (by omega) (hF.heap (i := 0) rfl) (by omega) (by omega) (by omega) (by omega)) (x_call3 en_33 rfl rfl rfl rfl) ?_
 rintro _ w ⟨rfl, hE⟩
 replace hF := hF.ext hE
 replace hK := hK.ext hE
 clear hE
 refine o_val (x_move rfl) (o_val (v := .pointer (some ⟨cb, gi m (x + 1) (y + 1), none⟩)) (x_nilCheck rfl) ?_)
 refine o_store 1 (l := [.int .i64 (min ((1 : Int) + min ((d1 : Nat) : Int) ((d2 : Nat) : Int) : Int) (((d4 : Nat) : Int) + (d5 : Nat) : Int))]) (cs' := intsA (((n + 1) * (m + 1))) (setF (f) (gi m (x + 1) (y + 1)) (min ((1 : Int) + min ((d1 : Nat) : Int) ((d2 : Nat) : Int) : Int) (((d4 : Nat) : Int) + (d5 : Nat) : Int)))) hF Tryz.sizeOf3 rfl (v := .int .i64 (min ((1 : Int) + min ((d1 : Nat) : Int) ((d2 : Nat) : Int) : Int) (((d4 : Nat) : Int) + (d5 : Nat) : Int))) rfl rfl (by simp [one]) rfl (by rw [intsA_size]; simp only [List.length_singleton]; exact Nat.succ_le_of_lt (gi_lt (by omega) (by omega))) (intsA_put _) ?_
 clear hF; intro w hF hE
 replace hK := hK.step hE (by simpa using hcbN)
 clear hE
 replace hF : FR w0 (Rows q la.length) [(gb, .cells #[.int .i64 (((m + 1 : Nat) : Int)), .slice (some ⟨cb, 0, none⟩) (((n + 1) * (m + 1))) (((n + 1) * (m + 1)))] 84), (cb, .cells (intsA (((n + 1) * (m + 1))) (setF (f) (gi m (x + 1) (y + 1)) (min ((1 : Int) + min ((d1 : Nat) : Int) ((d2 : Nat) : Int) : Int) (((d4 : Nat) : Int) + (d5 : Nat) : Int)))) 3)] w := hF
 refine o_nil (e_block (e_seq (c_region (o_val (x_move rfl) (o_val (v := .int .i64 (((v + (y + 1) : Nat) : Int))) (x_add rfl rfl (wrap_to (by omega) (by omega) (by omega))) (o_val (x_assign rfl) (o_nil ?_)))))))
 refine e_inv ⟨_, ?_, y + 1, (setF (f) (gi m (x + 1) (y + 1)) (min ((1 : Int) + min ((d1 : Nat) : Int) ((d2 : Nat) : Int) : Int) (((d4 : Nat) : Int) + (d5 : Nat) : Int))), P, rfl, (by omega), (Gok.put hG_ (by omega) (by rw [hbest])), (Fok.skip hP hr1), (hK), ⟨rfl, rfl, rfl, rfl, rfl, rfl, rfl, rfl, trivial⟩, hF⟩
 omega
 refine o_off (o_off (o_off (o_val (x_pickf rfl rfl) (o_nil (e_seq (c_iff rfl ?_))))))
 have hr1 : ¬ (lfN fa (u + x) = u ∧ lfN fb (v + y) = v) := by omega
 obtain ⟨d4, hd4⟩ : ∃ d, d = fd (nodesT la fa) (nodesT lb fb) u (lu) v (lv) := ⟨_, rfl⟩
 obtain ⟨d5, hd5⟩ : ∃ d, d = td (nodesT la fa) (nodesT lb fb) (u + x) (v + y) := ⟨_, rfl⟩
 have hv4 : f (gi m (lu - u) (lv - v)) = (d4 : Int) := by have h := hG_.2.1 (lu - u) (lv - v) (by omega) (by omega); rw [h, hd4, fdI, show u + (lu - u) = lu by omega, show v + (lv - v) = lv by omega]
 have hv5 : P (u + x) (v + y) = (d5 : Int) := by rw [hP.2 _ _ (fun h => hr1 h.2.2.2.2), hd5]; exact hP0 _ _ (by omega) (by omega) (by omega) (by omega) hr1
 have hm4 : d4 ≤ 1024 := by rw [hd4]; have := (fd_bounds (nodesT la fa) (nodesT lb fb) _ u lu v lv (Nat.le_refl _)).1; omega
 have hm5 : d5 ≤ 1024 := by rw [hd5]; unfold td; have := (fd_bounds (nodesT la fa) (nodesT lb fb) _ (lfN fa (u + x)) (u + x + 1) (lfN fb (v + y)) (v + y + 1) (Nat.le_refl _)).1; have e1 : (nodesT la fa).lf (u + x) = lfN fa (u + x) := rfl; have e2 : (nodesT lb fb).lf (v + y) = lfN fb (v + y) := rfl; rw [e1, e2]; omega
 have hbest := best_parts (A := nodesT la fa) (B := nodesT lb fb) (u := u) (v := v) (x := x) (y := y) (by show u ≤ lfN fa (u + x); omega) (by show v ≤ lfN fb (v + y); omega)
 have e1 : (nodesT la fa).lf (u + x) = lu := hlu.symm
 have e2 : (nodesT lb fb).lf (v + y) = lv := hlv.symm
 rw [e1, e2, ← hd1, ← hd2, ← hd4, ← hd5] at hbest
 refine c_drawF [] (.free 0 (.free 1 (.free 2 (.free 3 (.free 4 (.free 5 (.free 6 (.free 7 (.free 8 (.free 9 (.free 13 (.free 14 (.free 15 (.free 16 (.free 17 (.free 18 (.free 19 (.free 20 (.free 21 (.free 22 (.act 10 (.free 11 (.free 12 (.free 23 (.free 24 (.free 25 .nil)))))))))))))))))))))))))) (by kernel_rfl) hF (by kernel_rfl) (by kernel_rfl) ?_
 clear hF; intro w hF hE
 replace hK := hK.ext hE
 clear hE
 refine ⟨fun wq => FR w0 (Rows q la.length) [(gb, .cells #[.int .i64 (((m + 1 : Nat) : Int)), .slice (some ⟨cb, 0, none⟩) (((n + 1) * (m + 1))) (((n + 1) * (m + 1)))] 84), (cb, .cells (intsA (((n + 1) * (m + 1))) (f)) 3)] wq ∧ Rk wq N0 rb pb q la fa lb fb Aa Ba Ab Bb k1 k2 k3 k4 P, ⟨hF, hK⟩, ?_⟩
 refine f_free rfl (v := .int .i64 ((1 : Int) + min ((d1 : Nat) : Int) ((d2 : Nat) : Int))) (fun w hC => x_move rfl) (f_free rfl (v := .pointer (some ⟨gb, 0, none⟩)) (fun w hC => x_move rfl) (f_free rfl (v := .int .i64 ((lu : Nat))) (fun w hC => x_move rfl) (f_free rfl (v := .int .i64 ((u : Nat))) (fun w hC => x_move rfl) (f_free rfl (v := .int .i64 (((lu : Nat) : Int) - (u : Nat))) (fun w hC => x_sub rfl rfl (wrap_id (by omega) (by omega))) (f_free rfl (v := .int .i64 ((((lu : Nat) : Int) - (u : Nat) : Int) - 1)) (fun w hC => x_sub rfl rfl (wrap_id (by omega) (by omega))) (f_free rfl (v := .int .i64 ((lv : Nat))) (fun w hC => x_move rfl) (f_free rfl (v := .int .i64 ((v : Nat))) (fun w hC => x_move rfl) (f_free rfl (v := .int .i64 (((lv : Nat) : Int) - (v : Nat))) (fun w hC => x_sub rfl rfl (wrap_id (by omega) (by omega))) (f_free rfl (v := .int .i64 ((((lv : Nat) : Int) - (v : Nat) : Int) - 1)) (fun w hC => x_sub rfl rfl (wrap_id (by omega) (by omega))) (f_free rfl (v := .pointer (some ⟨rb, 0, none⟩)) (fun w hC => x_move rfl) (f_free rfl (v := .pointer (some ⟨rb, 0, none⟩)) (fun w hC => x_nilCheck rfl) (f_free rfl (v := .pointer (some ⟨rb, 4, none⟩)) (fun w hC => x_fieldAddrO fa_69_2 rfl) (f_free rfl (v := .slice (some ⟨pb, 0, none⟩) (la.length) (la.length)) (fun w hC => x_load Tryz.isAgg44 rfl hC.2.c4) ?_)))))))))))))
 refine f_free rfl (v := .int .i64 (((u + x : Nat) : Int))) (fun w hC => x_move rfl) (f_free rfl (v := .pointer (some ⟨pb, u + x, none⟩)) (fun w hC => x_indexAddrO (i := ((u + x : Nat) : Int)) (u + x) sl_44 rfl rfl (by omega) (by omega) (by omega)) (f_free rfl (v := .slice (some ⟨q (u + x), 0, none⟩) (lb.length) (lb.length)) (fun w hC => x_load Tryz.isAgg28 rfl (hC.2.grid.rowCell (by omega))) (f_free rfl (v := .int .i64 (((v + y : Nat) : Int))) (fun w hC => x_move rfl) (f_free rfl (v := .pointer (some ⟨q (u + x), v + y, none⟩)) (fun w hC => x_indexAddrO (i := ((v + y : Nat) : Int)) (v + y) sl_28 rfl rfl (by omega) (by omega) (by omega)) ?_))))
 refine f_free rfl (v := .int .i64 ((d5 : Nat))) (fun w hC => x_load Tryz.isAgg3 rfl (by rw [← hv5]; exact hC.2.grid.cell (by omega) (by omega))) ?_
 refine f_call rfl (gat_c _ gb cb n m (lu - u) (lv - v) _ _ (by omega) (by omega) (hF.heap (i := 0) rfl) (by omega) (by omega) (by omega) (by omega)) (x_call3 en_33 rfl rfl rfl rfl) ?_
 rintro _ w ⟨rfl, hE⟩
 replace hF := hF.ext hE
 replace hK := hK.ext hE
 clear hE
 refine ⟨⟨hF, hK⟩, ?_⟩
 refine f_free rfl (v := .pointer (some ⟨cb, gi m (lu - u) (lv - v), none⟩)) (fun w hC => x_nilCheck rfl) ?_
 refine f_free rfl (v := .int .i64 ((d4 : Nat))) (fun w hC => x_load Tryz.isAgg3 rfl (by rw [← hv4]; exact hC.1.intCell 1 rfl (gi_lt (by omega) (by omega)))) ?_
 refine f_free rfl (v := .int .i64 (((d4 : Nat) : Int) + (d5 : Nat))) (fun w hC => x_add rfl rfl (wrap_id (by omega) (by omega))) (f_free rfl (v := .int .i64 (min ((1 : Int) + min ((d1 : Nat) : Int) ((d2 : Nat) : Int) : Int) (((d4 : Nat) : Int) + (d5 : Nat) : Int))) (fun w hC => x_min rfl rfl) (f_free rfl (v := .int .i64 (min ((1 : Int) + min ((d1 : Nat) : Int) ((d2 : Nat) : Int) : Int) (((d4 : Nat) : Int) + (d5 : Nat) : Int))) (fun w hC => x_assign rfl) (d_nil (e_seq (c_region (o_val (x_move rfl) (o_val (x_move rfl) (o_val (x_move rfl) ?_))))))))
 refine o_call (gat_c _ gb cb n m (x + 1) (y + 1) _ _ (by omega) (by omega) (hF.heap (i := 0) rfl) (by omega) (by omega) (by omega) (by omega)) (x_call3 en_33 rfl rfl rfl rfl) ?_
 rintro _ w ⟨rfl, hE⟩
 replace hF := hF.ext hE
 replace hK := hK.ext hE
 clear hE
 refine o_val (x_move rfl) (o_val (v := .pointer (some ⟨cb, gi m (x + 1) (y + 1), none⟩)) (x_nilCheck rfl) ?_)
 refine o_store 1 (l := [.int .i64 (min ((1 : Int) + min ((d1 : Nat) : Int) ((d2 : Nat) : Int) : Int) (((d4 : Nat) : Int) + (d5 : Nat) : Int))]) (cs' := intsA (((n + 1) * (m + 1))) (setF (f) (gi m (x + 1) (y + 1)) (min ((1 : Int) + min ((d1 : Nat) : Int) ((d2 : Nat) : Int) : Int) (((d4 : Nat) : Int) + (d5 : Nat) : Int)))) hF Tryz.sizeOf3 rfl (v := .int .i64 (min ((1 : Int) + min ((d1 : Nat) : Int) ((d2 : Nat) : Int) : Int) (((d4 : Nat) : Int) + (d5 : Nat) : Int))) rfl rfl (by simp [one]) rfl (by rw [intsA_size]; simp only [List.length_singleton]; exact Nat.succ_le_of_lt (gi_lt (by omega) (by omega))) (intsA_put _) ?_
 clear hF; intro w hF hE
 replace hK := hK.step hE (by simpa using hcbN)
 clear hE
 replace hF : FR w0 (Rows q la.length) [(gb, .cells #[.int .i64 (((m + 1 : Nat) : Int)), .slice (some ⟨cb, 0, none⟩) (((n + 1) * (m + 1))) (((n + 1) * (m + 1)))] 84), (cb, .cells (intsA (((n + 1) * (m + 1))) (setF (f) (gi m (x + 1) (y + 1)) (min ((1 : Int) + min ((d1 : Nat) : Int) ((d2 : Nat) : Int) : Int) (((d4 : Nat) : Int) + (d5 : Nat) : Int)))) 3)] w := hF
 refine o_nil (e_block (e_seq (c_region (o_val (x_move rfl) (o_val (v := .int .i64 (((v + (y + 1) : Nat) : Int))) (x_add rfl rfl (wrap_to (by omega) (by omega) (by omega))) (o_val (x_assign rfl) (o_nil ?_)))))))
 refine e_inv ⟨_, ?_, y + 1, (setF (f) (gi m (x + 1) (y + 1)) (min ((1 : Int) + min ((d1 : Nat) : Int) ((d2 : Nat) : Int) : Int) (((d4 : Nat) : Int) + (d5 : Nat) : Int))), P, rfl, (by omega), (Gok.put hG_ (by omega) (by rw [hbest])), (Fok.skip hP hr1), (hK), ⟨rfl, rfl, rfl, rfl, rfl, rfl, rfl, rfl, trivial⟩, hF⟩
 omega
 refine c_iff rfl ?_
 refine c_exit (e_exit rfl ?_)
 refine e_block (e_seq (c_region (o_val (x_move rfl) (o_val (v := .int .i64 (((u + (x + 1) : Nat) : Int))) (x_add rfl rfl (wrap_to (by omega) (by omega) (by omega))) (o_val (x_assign rfl) (o_nil ?_))))))
 refine e_inv ⟨_, ?_, x + 1, (f), P, rfl, (by omega), ((by obtain rfl : y = m := (by omega); exact Gok.close hG_)), ((by obtain rfl : y = m := (by omega); exact Fok.next hP)), (hK), ⟨rfl, rfl, rfl, rfl, rfl, rfl, rfl, trivial⟩, hF⟩
 omega
 refine c_iff rfl ?_
 refine c_exit (e_exit rfl ?_)
 refine e_seq (c_seq (c_region (o_val (x_move rfl) (o_val (x_assign rfl) (o_nil (e_seq ?_))))))
 refine c_ret (e_ret (post_ret (res_1 (v := .pointer (some ⟨gb, 0, none⟩)) rfl rfl) ?_))
 obtain rfl : x = n := by omega
 exact ⟨gb, cb, f, P, rfl, hF.heap (i := 0) rfl, hF.heap (i := 1) rfl, hD_.2 _ _ (Nat.le_refl _) (Nat.le_refl _), hK, fun i j h => hP.1 i j h (.inl h.2.1), hP.2, hgs, hcs, hF.same⟩
end Go.Scarf
namespace Go.Scarf
open Go.RowKit Go.Proofs
def seenV (lm : LN) (seen : Array Nat) : List Nat := seen.toList.map fun i => (lm.getD i (0, 0)).2
theorem seenV_push (lm : LN) (seen : Array Nat) (j : Nat) : seenV lm (seen.push j) = seenV lm seen ++ [(lm.getD j (0, 0)).2] := by simp [seenV]
theorem seenV_len (lm : LN) (seen : Array Nat) : (seenV lm seen).length = seen.size := by simp [seenV]
theorem toJ_at (lm : LN) (j : Nat) (h : j < (toJ lm).length) : (toJ lm)[j].2 = .int .i64 (((lm.getD j (0, 0)).2 : Nat) : Int) := by
  rw [toJ_len] at h
  simp [toJ, List.getD, h]
theorem ints_lits {S : Nat → Prop} {wx : World} : ∀ {q : List Int}, (∀ s ∈ q, -9223372036854775808 ≤ s ∧ s ≤ 9223372036854775807) → RepL S wx (q.map intD) (q.map fun s => Value.int .i64 s)
  | [], _ => RepL.nil_mk
  | s :: q, h => RepL.cons_mk (Rep.lit_mk (v := .int .i64 s) (h s (by simp))) (ints_lits fun x hx => h x (by simp [hx]))
theorem sortOwn {w0 w : World} {pre post sb : List (Nat × Obj)} {A : Option Addr} {n c : Nat} {zs : List Int} (hn0 : n = zs.length) (hS : SlB 3 1 A n c (zs.map (Value.int .i64)) sb) (hF : FR w0 [] (pre ++ (sb ++ post)) w) (hl : n ≤ 1000000) :
    Calls Tryz.prog 80 #[.slice A n c] w (Ret fun v w' => v = .tuple #[] ∧ ∃ sb', SlB 3 1 A n c ((zs.mergeSort fun x y => decide (x ≤ y)).map (Value.int .i64)) sb' ∧ FR w0 [] (pre ++ (sb' ++ post)) w') := by
  subst hn0
  rcases hS.2 with ⟨hn, hc, rfl⟩ | ⟨g, cur, rfl, rfl, h1, h2, h3, h4⟩
  · obtain rfl : zs = [] := List.eq_nil_of_length_eq_zero hn
    refine (Go.Proofs.Tryz.slices_Sort_int_none A c w).mono ?_
    rintro e w' ⟨rfl, rfl⟩
    exact ⟨_, rfl, rfl, [], by simpa using hS, hF⟩
  · have hb := hF.memHeap (p := (g, .cells cur 3)) (by simp)
    rw [Nat.mul_one] at h4
    refine (Go.Proofs.Tryz.slices_Sort_int g 0 c zs w (holds_of_blockI hb h4) (lt_of_some hb) (by omega)).mono ?_
    rintro e w' ⟨rfl, n, os, rfl⟩
    have hlm : (zs.mergeSort fun x y => decide (x ≤ y)).length = zs.length := List.length_mergeSort _
    have hnew := heap_sortedI (n := n) (os := os) (zs.mergeSort fun x y => decide (x ≤ y)).toArray hb
    have hg := grownBy_sortedI (w := w) (g := g) (n := n) (os := os) (zs.mergeSort fun x y => decide (x ≤ y)).toArray
    have hs : Same [g] w (Go.Sort.grow (Go.Sort.putRow (Value.int .i64) (Go.Sort.ahead w n) g 0 (zs.mergeSort fun x y => decide (x ≤ y)).toArray) os) := ⟨hg.os, hg.tape, hg.output, hg.size, fun b hb hn => hg.block b hb (fun e => hn (by simp at e; simp [e]))⟩
    refine ⟨_, rfl, rfl, _, ?_, hF.changeMid hs hnew⟩
    refine ⟨by simp [hlm], .inr ⟨g, _, rfl, rfl, h1, h2, by simp [Go.Sort.putCells, h3], ?_⟩⟩
    rw [Nat.mul_one, ← hlm]
    exact take_putCellsI cur _ (by rw [hlm]; omega)
theorem updN_len (l : LN) (k : Int) (v : Nat) : (updN l k v).length ≤ l.length + 1 := by
  unfold updN
  split
  · rw [List.length_set]; omega
  · simp
theorem unseen_le {lm : LN} {seen : Array Nat} (hn : seen.toList.Nodup) (hl : ∀ i ∈ seen.toList, i < lm.length) : seen.size ≤ lm.length := by
  have hp : seen.toList.Perm ((List.range lm.length).filter fun i => decide (i ∈ seen.toList)) := perm_of_mem hn (List.Pairwise.filter _ List.nodup_range) fun x => by
    rw [List.mem_filter, List.mem_range, decide_eq_true_eq]
    exact ⟨fun h => ⟨hl x h, h⟩, fun h => h.2⟩
  have h1 := hp.length_eq
  have h2 := List.length_filter_le (fun i => decide (i ∈ seen.toList)) (List.range lm.length)
  rw [List.length_range] at h2
  simp only [Array.length_toList] at h1
  omega
set_option maxHeartbeats 4000000 in
set_option maxRecDepth 10000 in
theorem keyroots_c (S : Nat → Prop) (w0 : World) (la : List Str) (fa : List Int) (Aa Ba : Option Addr) (ca ea : Nat) (hLa : Rep S w0 (strsD la) [.slice Aa la.length ca]) (hNa : Rep S w0 (.slice (fa.map intD)) [.slice Ba fa.length ea]) (hR : RightT la fa) : Calls Tryz.prog 55 #[.agg #[.slice Aa la.length ca, .slice Ba fa.length ea]] w0 (Ret fun v w' => ∃ A c, v = .slice A (kroots fa).length c ∧ Rep (Btw w0 w') w' (.slice (((kroots fa).map fun i : Nat => (i : Int)).map intD)) [.slice A (kroots fa).length c] ∧ Same [] w0 w') := by
 have hLla := hLa.slice_len
 have hNla := hNa.slice_len
 rw [List.length_map] at hLla hNla
 have hR5 := hR.2.1
 have hRl := hR.1
 refine calls_start Tryz.func55 rfl Tryz.ntmps55 (Nat.le_of_ble_eq_true rfl) (args_1 _) ?_
 have hF := FR.start w0 []
 refine c_seq (c_region ?_)
 refine o_box (v := .agg #[.slice (Aa) (la.length) (ca), .slice (Ba) (fa.length) (ea)]) (cs := #[.slice (Aa) (la.length) (ca), .slice (Ba) (fa.length) (ea)]) hF rfl rfl ?_
 clear hF; rintro b1 w hb1 hF -
 refine o_val (x_assign rfl) (o_nil (e_seq (c_seq (c_seq (c_region (o_val (v := .agg #[.slice (Aa) (la.length) (ca), .slice (Ba) (fa.length) (ea)]) (x_loadS (l := [.slice (Aa) (la.length) (ca), .slice (Ba) (fa.length) (ea)]) Tryz.isAgg30 Tryz.sizeOf30 rfl rfl (hF.cellsAll 0 rfl)) ?_))))))
 refine o_call (rightT_c _ _ la fa Aa Ba ca ea (hF.rep hLa) (hF.rep hNa)) (x_call1 en_14 rfl rfl) ?_
 rintro _ w ⟨b, rfl, hb, hE⟩
 obtain rfl : b = true := hb.2 hR
 replace hF := hF.ext hE
 clear hE
 refine o_val (v := .bool false) (x_not (b := true) rfl) (o_nil (e_seq (c_iff rfl (c_skip (e_seq (c_seq (c_region ?_)))))))
 refine o_new (v := fun b => .map (some b)) (o := mapJ (toJ [])) hF (x_makeMapJ0 Tryz.underlying107) ?_
 clear hF; rintro b2 w hb2 hF -
 refine o_val (x_assign rfl) (o_nil (e_seq (c_seq (c_seq (c_region (o_val (v := .pointer (some ⟨b1, 1, none⟩)) (x_fieldAddrO fa_30_1 rfl) (o_val (v := .slice (Ba) (fa.length) (ea)) (x_load Tryz.isAgg28 rfl (hF.cell 1 rfl rfl)) (o_val (v := .int .i64 ((fa.length : Nat))) (x_len_slice Tryz.underlying28 rfl) (o_val (x_move rfl) (o_nil (e_seq (c_block ?_))))))))))))
 refine c_loop (fun μ σ w => ∃ (j : Nat), ∃ (lm : LN), μ = fa.length - j ∧ (j ≤ fa.length) ∧ (LastOk fa j lm ∧ lm.length ≤ j) ∧ AllEq σ [(3, .map (some b2)), (14, .slice (Ba) (fa.length) (ea)), (15, .int .i64 ((fa.length : Nat))), (16, .int .i64 ((j : Int)))] ∧ FR w0 [] [(b2, mapJ (toJ lm)), (b1, .cells #[.slice (Aa) (la.length) (ca), .slice (Ba) (fa.length) (ea)] 30)] w) _ ⟨0, [], rfl, (Nat.zero_le _), (⟨LastOk.nil fa, Nat.le_refl _⟩), ⟨rfl, rfl, rfl, rfl, trivial⟩, hF⟩ ?_
 clear hF; rintro μ σ w ⟨j, lm, rfl, hj, hlm, hs, hF⟩
 refine Cg.slots hs ?_
 clear hs; intro σ
 refine c_seq (c_region (o_val (v := .bool (decide (((j : Int) : Int) < ((fa.length : Nat) : Int)))) (x_lss rfl rfl) (o_nil (e_seq (c_seq ?_)))))
 refine c_splitd (d := 17) (p := ((j : Int) : Int) < ((fa.length : Nat) : Int)) rfl (fun hc1 => ?_) (fun hc1 => ?_)
 refine c_ift rfl (c_skip (e_seq (c_seq (c_block (c_seq (c_region (o_val (x_move rfl) ?_)))))))
 obtain ⟨ad0, hA0, hk0, hx0⟩ := hNa.int_elem (i := j) (by omega)
 refine o_val (v := .pointer (some (ad0.add (j * 1)))) (x_indexAddrA (i := (j : Int)) sl_28 rfl hA0 rfl (by omega) (by omega)) (o_val (v := .int .i64 (fa[j])) (x_load Tryz.isAgg3 rfl (hF.cell0 hk0)) (o_val (x_assign rfl) (o_val (x_assign rfl) (o_nil (e_seq (c_region (o_val (x_move rfl) (o_val (x_move rfl) (o_val (x_move rfl) ?_)))))))))
 refine o_mapUpd 0 (l := lm) (key := fa[j]) (v := j) hF Tryz.underlying107 Tryz.underlying3 rfl rfl rfl rfl ?_
 clear hF; rintro w hF -
 replace hF : FR w0 [] [(b2, mapJ (toJ (updN lm (fa[j]) (j)))), (b1, .cells #[.slice (Aa) (la.length) (ca), .slice (Ba) (fa.length) (ea)] 30)] w := hF
 refine o_nil (e_block (e_seq (c_region (o_val (v := .int .i64 (((j + 1 : Nat) : Int))) (x_add rfl rfl (wrap_to (by omega) (by omega) (by omega))) (o_val (x_move rfl) (o_nil ?_))))))
 refine e_inv ⟨_, ?_, j + 1, updN lm fa[j] j, rfl, (by omega), (⟨by have := hlm.1.step; rwa [getD_in (by omega)] at this, by have := updN_len lm fa[j] j; omega⟩), ⟨rfl, rfl, rfl, rfl, trivial⟩, hF⟩
 omega
 refine c_iff rfl ?_
 refine c_exit (e_exit rfl ?_)
 refine e_seq (c_seq (c_region (o_val (x_assign rfl) (o_nil (e_seq (c_seq (c_seq ?_)))))))
 have hjn : j = fa.length := by omega
 rw [hjn] at hlm
 refine c_region (o_val (x_move rfl) ?_)
 refine o_new (v := fun b => .pointer (some ⟨b, 0, none⟩)) (o := .mapIter (some b2) ((toJ lm)).length #[] ((toJ lm)).length) hF (x_rangeJ Tryz.underlying107 rfl (hF.heap (i := 0) rfl)) ?_
 clear hF; rintro b3 w hb3 hF -
 refine o_nil (e_seq (c_block ?_))
 replace hF : FR w0 [] ([(b3, .mapIter (some b2) ((toJ lm)).length #[] ((toJ lm)).length), (b2, mapJ (toJ lm)), (b1, .cells #[.slice (Aa) (la.length) (ca), .slice (Ba) (fa.length) (ea)] 30)] ++ ([] ++ [])) w := hF
 refine c_loop (fun μ σ w => ∃ (seen : Array Nat), ∃ (A : Option Addr), ∃ (c : Nat), ∃ (sb : List (Nat × Obj)), μ = unseen (toJ lm).length seen ∧ (seen.toList.Nodup) ∧ (∀ i ∈ seen.toList, i < lm.length) ∧ (SlB 3 1 A (seenV lm seen).length c (IVn (seenV lm seen)) sb) ∧ AllEq σ [(6, .slice (A) ((seenV lm seen).length) (c)), (26, .pointer (some ⟨b3, 0, none⟩))] ∧ FR w0 [] ([(b3, .mapIter (some b2) (toJ lm).length (seen) (toJ lm).length), (b2, mapJ (toJ lm)), (b1, .cells #[.slice (Aa) (la.length) (ca), .slice (Ba) (fa.length) (ea)] 30)] ++ (sb ++ [])) w) _ ⟨#[], none, 0, [], rfl, (by simp), (by simp), (SlB.nil _ _), ⟨rfl, rfl, trivial⟩, hF⟩ ?_
 clear hF; rintro μ σ w ⟨seen, A, c, sb, rfl, hsn, hsl, hS, hs, hF⟩
 refine Cg.slots hs ?_
 clear hs; intro σ
 refine c_seq (c_region ?_)
 refine o_nextJ 0 (b := b2) (l := (toJ lm)) (seen := seen) hF rfl rfl (hF.heap (i := 1) rfl) (fun hall => ?_) (fun q w hq hn hF2 hE _ => ?_)
 refine o_val (x_extract rfl rfl) (o_nil (e_seq (c_seq (c_iff rfl ?_))))
 refine c_exit (e_exit rfl ?_)
 refine e_seq (c_seq (c_region (o_val (x_move rfl) ?_)))
 refine o_call (sortOwn (pre := [(b3, .mapIter (some b2) (toJ lm).length (seen) (toJ lm).length), (b2, mapJ (toJ lm)), (b1, .cells #[.slice (Aa) (la.length) (ca), .slice (Ba) (fa.length) (ea)] 30)]) (post := []) (zs := (seenV lm seen).map fun i : Nat => (i : Int)) (by simp) (by have h := hS; unfold IVn at h; rw [List.map_map]; exact h) hF (by have := unseen_le hsn hsl; have := hlm.2; rw [seenV_len]; omega)) (x_call1 en_80 rfl rfl) ?_
 rintro _ w ⟨rfl, sb2, hS2, hF⟩
 refine o_nil (e_seq (c_seq (c_region (o_val (x_move rfl) (o_val (x_assign rfl) (o_nil (e_seq ?_)))))))
 refine c_ret (e_ret (post_ret (res_1 (v := .slice (A) ((seenV lm seen).length) (c)) rfl rfl) ?_))
 have hp := seen_perm hsn hsl (fun i hi => by have := hall i (by rw [toJ_len]; exact hi); rw [← Array.contains_toList] at this; exact List.contains_iff_mem.1 this)
 have hk := sort_kroots (hp.trans hlm.1.perm)
 have hk2 : (((seenV lm seen).map fun i : Nat => (i : Int)).mergeSort fun x y => decide (x ≤ y)) = (kroots fa).map fun i : Nat => (i : Int) := hk
 rw [hk2] at hS2
 have hlen : (seenV lm seen).length = (kroots fa).length := (hp.trans hlm.1.perm).length_eq
 rw [hlen] at hS2 ⊢
 refine ⟨_, _, rfl, ?_, hF.same⟩
 have hK : RX w0 [] w (((kroots fa).map fun i : Nat => (i : Int)).map intD) _ := ints_lits (fun s hs => by obtain ⟨i, hi, rfl⟩ := List.mem_map.1 hs; have := (kroots_mem.1 hi).1; have := hR.1; have := hR.2.1; omega)
 exact hS2.rep (pre := [_, _, _]) (post := []) hF hK (by simp)
 clear hF
 have hF : FR w0 [] ([(b3, .mapIter (some b2) ((toJ lm)).length ((seen).push q) ((toJ lm)).length), (b2, mapJ (toJ lm)), (b1, .cells #[.slice (Aa) (la.length) (ca), .slice (Ba) (fa.length) (ea)] 30)] ++ (sb ++ [])) w := hF2
 clear hE hF2
 refine o_val (x_extract rfl rfl) (o_nil (e_seq (c_seq (c_ift rfl (c_skip (e_seq (c_block (c_seq (c_region (o_val (v := .tuple #[.int .i64 ((toJ lm)[q].1), .int .i64 (((lm.getD q (0, 0)).2 : Nat))]) (x_entryJ rfl hq (hF.heap (i := 0) rfl) (hF.heap (i := 1) rfl) (toJ_at lm q hq)) (o_val (x_extract rfl rfl) (o_val (x_assign rfl) (o_nil ?_)))))))))))))
 refine e_seq (c_region (o_val (x_move rfl) (o_val (x_move rfl) ?_)))
 refine o_new (v := fun b => .slice (some ⟨b, 0, none⟩) 1 1) hF (x_buildSlice (cs := #[.int .i64 (((lm.getD q (0, 0)).2 : Nat))]) Tryz.underlying28 Tryz.sizeOf3 Tryz.zeroValue3 (by decide) (by decide) (by kernel_rfl)) ?_
 clear hF; rintro b4 w hb4 hF -
 refine o_append [(b4, .cells #[.int .i64 (((lm.getD q (0, 0)).2 : Nat))] 3), (b3, .mapIter (some b2) ((toJ lm)).length ((seen).push q) ((toJ lm)).length), (b2, mapJ (toJ lm)), (b1, .cells #[.slice (Aa) (la.length) (ca), .slice (Ba) (fa.length) (ea)] 30)] [] (news := [.int .i64 (((lm.getD q (0, 0)).2 : Nat))]) (len' := (seenV lm (seen.push q)).length) (ys := IVn (seenV lm (seen.push q))) el_28 hF hS rfl rfl (rfl) (fun _ => ⟨_, rfl, cells_opt (hF.cellsAll 0 rfl)⟩) (by simp [Value.oneCell']) (by have := unseen_le hsn hsl; simp only [maxLen, seenV_len]; omega) (by simp [seenV_push]) (by simp [IVn, seenV_push]) (by have := unseen_le hsn hsl; simp only [seenV_len]; omega) ?_
 clear hF; intro A1 c1 o_1 w hS1_o hF hE hnew
 clear hE hnew
 refine o_val (x_assign rfl) (o_nil (e_block ?_))
 refine e_inv ⟨_, ?_, seen.push q, A1, c1, o_1, rfl, (by rw [Array.toList_push, List.nodup_append]; exact ⟨hsn, by simp, fun a ha b hb e => by simp only [List.mem_singleton] at hb; subst hb; subst e; rw [← Array.contains_toList] at hn; exact absurd (List.contains_iff_mem.2 ha) (by rw [hn]; simp)⟩), (by intro i hi; rw [Array.toList_push, List.mem_append, List.mem_singleton] at hi; rcases hi with hi | rfl; exact hsl i hi; rw [← toJ_len]; exact hq), (hS1_o), ⟨rfl, rfl, trivial⟩, hF.drop 1⟩
 exact unseen_push hq hn
end Go.Scarf
namespace Go.Scarf
open Go.RowKit Go.Proofs
def rowsA (n m i : Nat) (q : Nat → Nat) : Array Value := ((List.range n).map fun k => if k < i then Value.slice (some ⟨q k, 0, none⟩) m m else Value.slice none 0 0).toArray
theorem rowsA_size (n m i : Nat) (q : Nat → Nat) : (rowsA n m i q).size = n := by simp [rowsA]
theorem rowsA_zero (n m : Nat) (q : Nat → Nat) : (List.replicate n (Value.slice none 0 0)).toArray = rowsA n m 0 q := by
  apply Array.ext
  · simp [rowsA]
  · intro i h1 h2; simp [rowsA]
def qset (q : Nat → Nat) (i b : Nat) : Nat → Nat := fun k => if k = i then b else q k
theorem rowsA_put {n m i b : Nat} {q : Nat → Nat} (hi : i < n) : putA (rowsA n m i q) i [.slice (some ⟨b, 0, none⟩) m m] = rowsA n m (i + 1) (qset q i b) := by
  rw [putA, putA]
  apply Array.ext
  · simp [rowsA]
  · intro k h1 h2
    rw [Array.getElem_setIfInBounds (by simpa using h1)]
    by_cases e : i = k
    · subst e; simp [rowsA, qset]
    · have e' : ¬ k = i := fun h => e h.symm
      rw [if_neg e]
      by_cases hk : k < i
      · simp [rowsA, qset, hk, e', show k < i + 1 by omega]
      · simp [rowsA, qset, hk, e', show ¬ k < i + 1 by omega]
theorem rowsA_done (n m : Nat) (q : Nat → Nat) : rowsA n m n q = ((List.range n).map fun i => Value.slice (some ⟨q i, 0, none⟩) m m).toArray := by
  unfold rowsA
  congr 1
  exact List.map_congr_left fun k hk => by rw [if_pos (List.mem_range.1 hk)]
theorem FR.new_ids {w0 w : World} {Ds : List Nat} {bs_ : List (Nat × Obj)} {b : Nat} {o : Obj} (hF : FR w0 Ds ((b, o) :: bs_) w) : b ∉ bs_.map (·.1) := fun h => by
  obtain ⟨z, hz, e⟩ := List.mem_map.1 h
  exact (List.pairwise_cons.1 hF.desc).1 z hz e
structure RowsOk (w0 w : World) (i m : Nat) (q : Nat → Nat) (ids : List Nat) : Prop where
  row : ∀ k, k < i → w.heap[q k]? = some (.cells (intsA m fun _ => 0) 3)
  inj : ∀ k l, k < i → l < i → q k = q l → k = l
  new : ∀ k, k < i → w0.heap.size ≤ q k ∧ q k ∉ ids
theorem RowsOk.step {w0 w w' : World} {i m : Nat} {q : Nat → Nat} {ids E : List Nat} (h : RowsOk w0 w i m q ids) (hs : Same E w w') (he : ∀ b ∈ E, b ∈ ids) : RowsOk w0 w' i m q ids :=
  ⟨fun k hk => (hs.block _ (lt_of_some (h.row k hk)) (fun hm => (h.new k hk).2 (he _ hm))).trans (h.row k hk), h.inj, h.new⟩
theorem RowsOk.put {w0 w : World} {i m b : Nat} {q : Nat → Nat} {ids : List Nat} (h : RowsOk w0 w i m q ids) (hb : w.heap[b]? = some (.cells (intsA m fun _ => 0) 3)) (h1 : w0.heap.size ≤ b) (h2 : b ∉ ids) (h3 : ∀ k, k < i → q k ≠ b) : RowsOk w0 w (i + 1) m (qset q i b) ids := by
  have e : ∀ k, qset q i b k = if k = i then b else q k := fun _ => rfl
  refine ⟨fun k hk => ?_, fun k l hk hl he => ?_, fun k hk => ?_⟩
  · rw [e]; split
    · exact hb
    · exact h.row k (by omega)
  · rw [e, e] at he
    split at he <;> split at he
    · omega
    · exact absurd he.symm (h3 l (by omega))
    · exact absurd he (h3 k (by omega))
    · exact h.inj k l (by omega) (by omega) he
  · rw [e]; split
    · exact ⟨h1, h2⟩
    · exact h.new k (by omega)
theorem kroots_len (fs : List Int) : (kroots fs).length ≤ fs.length := by
  have := List.length_filter_le (fun i => kroot fs i) (List.range fs.length)
  rwa [List.length_range] at this
theorem lt_kroot {fs : List Int} (h : lfOk fs fs.length) {k x : Nat} (hk : k ∈ kroots fs) (hx : x < fs.length) (e : lfN fs x = lfN fs k) : lfN fs k ≤ x ∧ x ≤ k := by
  obtain ⟨h1, h2⟩ := kroots_mem.1 hk
  have e1 := h.at h1 h1
  have e2 := h.at hx hx
  refine ⟨by rw [← e]; exact Nat.min_le_right _ _, ?_⟩
  refine Classical.byContradiction fun hn => h2 x hx (by omega) ?_
  rw [getD_in hx, getD_in h1]
  omega
set_option maxHeartbeats 1000000 in
set_option maxRecDepth 10000 in
theorem reckoned_no (S S' : Nat → Prop) (w0 : World) (la : List Str) (fa : List Int) (Aa Ba : Option Addr) (ca ea : Nat) (hLa : Rep S w0 (strsD la) [.slice Aa la.length ca]) (hNa : Rep S w0 (.slice (fa.map intD)) [.slice Ba fa.length ea]) (lb : List Str) (fb : List Int) (Ab Bb : Option Addr) (cb eb : Nat) (hLb : Rep S' w0 (strsD lb) [.slice Ab lb.length cb]) (hNb : Rep S' w0 (.slice (fb.map intD)) [.slice Bb fb.length eb]) (hR : ¬ (RightT la fa ∧ RightT lb fb)) : Calls Tryz.prog 31 #[.agg #[.slice Aa la.length ca, .slice Ba fa.length ea], .agg #[.slice Ab lb.length cb, .slice Bb fb.length eb]] w0 (Ret fun v w' => v = .tuple #[.pointer none, .bool false] ∧ Same [] w0 w') := by
 have hLla := hLa.slice_len
 have hNla := hNa.slice_len
 rw [List.length_map] at hLla hNla
 have hLlb := hLb.slice_len
 have hNlb := hNb.slice_len
 rw [List.length_map] at hLlb hNlb
 refine calls_start Tryz.func31 rfl Tryz.ntmps31 (Nat.le_of_ble_eq_true rfl) (args_2 _ _) ?_
 have hF := FR.start w0 []
 refine c_seq (c_region ?_)
 refine o_box (v := .agg #[.slice (Aa) (la.length) (ca), .slice (Ba) (fa.length) (ea)]) (cs := #[.slice (Aa) (la.length) (ca), .slice (Ba) (fa.length) (ea)]) hF rfl rfl ?_
 clear hF; rintro b1 w hb1 hF -
 refine o_box (v := .agg #[.slice (Ab) (lb.length) (cb), .slice (Bb) (fb.length) (eb)]) (cs := #[.slice (Ab) (lb.length) (cb), .slice (Bb) (fb.length) (eb)]) hF rfl rfl ?_
 clear hF; rintro b2 w hb2 hF -
 refine o_val (x_assign rfl) (o_val (x_assign rfl) (o_nil (e_seq (c_seq (c_seq (c_region (o_val (v := .agg #[.slice (Aa) (la.length) (ca), .slice (Ba) (fa.length) (ea)]) (x_loadS (l := [.slice (Aa) (la.length) (ca), .slice (Ba) (fa.length) (ea)]) Tryz.isAgg30 Tryz.sizeOf30 rfl rfl (hF.cellsAll 1 rfl)) ?_)))))))
 refine o_call (rightT_c _ _ la fa Aa Ba ca ea (hF.rep hLa) (hF.rep hNa)) (x_call1 en_14 rfl rfl) ?_
 rintro _ w ⟨ra, rfl, hra, hE⟩
 replace hF := hF.ext hE
 clear hE
 refine o_val (v := .bool (!(ra))) (x_not rfl) (o_val (x_move rfl) ?_)
 refine o_split (d := 15) (b := !(ra)) rfl (fun hg0 => ?_) (fun hg0 => ?_)
 refine o_off (o_off (o_off (o_val (x_pickt rfl rfl) (o_nil (e_seq (c_ift rfl (c_seq (c_region (o_val (x_assign rfl) (o_val (x_assign rfl) (o_nil (e_seq ?_))))))))))))
 refine c_ret (e_ret (post_ret (res_2 (v := .pointer none) (x := .bool false) rfl rfl rfl) ?_))
 exact ⟨rfl, hF.same⟩
 refine o_val (v := .agg #[.slice (Ab) (lb.length) (cb), .slice (Bb) (fb.length) (eb)]) (x_loadS (l := [.slice (Ab) (lb.length) (cb), .slice (Bb) (fb.length) (eb)]) Tryz.isAgg30 Tryz.sizeOf30 rfl rfl (hF.cellsAll 0 rfl)) ?_
 refine o_call (rightT_c _ _ lb fb Ab Bb cb eb (hF.rep hLb) (hF.rep hNb)) (x_call1 en_14 rfl rfl) ?_
 rintro _ w ⟨rb, rfl, hrb, hE⟩
 replace hF := hF.ext hE
 clear hE
 refine o_val (v := .bool (!(rb))) (x_not rfl) (o_val (x_pickf rfl rfl) (o_nil (e_seq ?_)))
 refine c_split (d := 19) (b := !(rb)) rfl (fun hc0 => ?_) (fun hc0 => ?_)
 refine c_ift rfl (c_seq (c_region (o_val (x_assign rfl) (o_val (x_assign rfl) (o_nil (e_seq ?_))))))
 refine c_ret (e_ret (post_ret (res_2 (v := .pointer none) (x := .bool false) rfl rfl rfl) ?_))
 exact ⟨rfl, hF.same⟩
 exact absurd ⟨hra.1 (by simp_all), hrb.1 (by simp_all)⟩ hR
set_option maxHeartbeats 8000000 in
set_option maxRecDepth 10000 in
theorem reckoned_yes (S S' : Nat → Prop) (w0 : World) (la : List Str) (fa : List Int) (Aa Ba : Option Addr) (ca ea : Nat) (hLa : Rep S w0 (strsD la) [.slice Aa la.length ca]) (hNa : Rep S w0 (.slice (fa.map intD)) [.slice Ba fa.length ea]) (lb : List Str) (fb : List Int) (Ab Bb : Option Addr) (cb eb : Nat) (hLb : Rep S' w0 (strsD lb) [.slice Ab lb.length cb]) (hNb : Rep S' w0 (.slice (fb.map intD)) [.slice Bb fb.length eb]) (hRa : RightT la fa) (hRb : RightT lb fb) : Calls Tryz.prog 31 #[.agg #[.slice Aa la.length ca, .slice Ba fa.length ea], .agg #[.slice Ab lb.length cb, .slice Bb fb.length eb]] w0 (Ret fun v w' => ∃ (N0 rb pb : Nat) (q : Nat → Nat) (P : Nat → Nat → Int), v = .tuple #[.pointer (some ⟨rb, 0, none⟩), .bool true] ∧ Rk w' N0 rb pb q la fa lb fb Aa Ba Ab Bb ca ea cb eb P ∧ (∀ x y, x < la.length → y < lb.length → P x y = ((td (nodesT la fa) (nodesT lb fb) x y : Nat) : Int)) ∧ N0 ≤ w'.heap.size ∧ (∀ i, i < la.length → w0.heap.size ≤ q i) ∧ Same [] w0 w') := by
 have hLla := hLa.slice_len
 have hNla := hNa.slice_len
 rw [List.length_map] at hLla hNla
 have hLlb := hLb.slice_len
 have hNlb := hNb.slice_len
 rw [List.length_map] at hLlb hNlb
 have hR1 := hRa.1
 have hR2 := hRa.2.1
 have hR3 := hRb.1
 have hR4 := hRb.2.1
 have hkl1 := kroots_len fa
 have hkl2 := kroots_len fb
 refine calls_start Tryz.func31 rfl Tryz.ntmps31 (Nat.le_of_ble_eq_true rfl) (args_2 _ _) ?_
 have hF := FR.start w0 []
 refine c_seq (c_region ?_)
 refine o_box (v := .agg #[.slice (Aa) (la.length) (ca), .slice (Ba) (fa.length) (ea)]) (cs := #[.slice (Aa) (la.length) (ca), .slice (Ba) (fa.length) (ea)]) hF rfl rfl ?_
 clear hF; rintro b1 w hb1 hF -
 refine o_box (v := .agg #[.slice (Ab) (lb.length) (cb), .slice (Bb) (fb.length) (eb)]) (cs := #[.slice (Ab) (lb.length) (cb), .slice (Bb) (fb.length) (eb)]) hF rfl rfl ?_
 clear hF; rintro b2 w hb2 hF -
 refine o_val (x_assign rfl) (o_val (x_assign rfl) (o_nil (e_seq (c_seq (c_seq (c_region (o_val (v := .agg #[.slice (Aa) (la.length) (ca), .slice (Ba) (fa.length) (ea)]) (x_loadS (l := [.slice (Aa) (la.length) (ca), .slice (Ba) (fa.length) (ea)]) Tryz.isAgg30 Tryz.sizeOf30 rfl rfl (hF.cellsAll 1 rfl)) ?_)))))))
 refine o_call (rightT_c _ _ la fa Aa Ba ca ea (hF.rep hLa) (hF.rep hNa)) (x_call1 en_14 rfl rfl) ?_
 rintro _ w ⟨b, rfl, hb, hE⟩
 obtain rfl : b = true := hb.2 hRa
 replace hF := hF.ext hE
 clear hE
 refine o_val (v := .bool false) (x_not (b := true) rfl) (o_val (x_move rfl) (o_val (v := .agg #[.slice (Ab) (lb.length) (cb), .slice (Bb) (fb.length) (eb)]) (x_loadS (l := [.slice (Ab) (lb.length) (cb), .slice (Bb) (fb.length) (eb)]) Tryz.isAgg30 Tryz.sizeOf30 rfl rfl (hF.cellsAll 0 rfl)) ?_))
 refine o_call (rightT_c _ _ lb fb Ab Bb cb eb (hF.rep hLb) (hF.rep hNb)) (x_call1 en_14 rfl rfl) ?_
 rintro _ w ⟨b, rfl, hb, hE⟩
 obtain rfl : b = true := hb.2 hRb
 replace hF := hF.ext hE
 clear hE
 refine o_val (v := .bool false) (x_not (b := true) rfl) (o_val (x_pickf rfl rfl) (o_nil (e_seq (c_iff rfl (c_skip (e_seq (c_seq ?_)))))))
 refine c_drawF [] (.free 0 (.free 1 (.free 2 (.free 3 (.free 4 (.act 5 (.free 6 (.act 7 (.free 8 .nil))))))))) (by kernel_rfl) hF (by kernel_rfl) (by kernel_rfl) ?_
 clear hF; rintro w hF -
 refine ⟨fun wq => FR w0 [] [(b2, .cells #[.slice (Ab) (lb.length) (cb), .slice (Bb) (fb.length) (eb)] 30), (b1, .cells #[.slice (Aa) (la.length) (ca), .slice (Ba) (fa.length) (ea)] 30)] wq, hF, ?_⟩
 refine f_free rfl (v := .agg #[.slice (Aa) (la.length) (ca), .slice (Ba) (fa.length) (ea)]) (fun w hC => x_loadS (l := [.slice (Aa) (la.length) (ca), .slice (Ba) (fa.length) (ea)]) Tryz.isAgg30 Tryz.sizeOf30 rfl rfl (hC.cellsAll 1 rfl)) (f_free rfl (v := .agg #[.slice (Ab) (lb.length) (cb), .slice (Bb) (fb.length) (eb)]) (fun w hC => x_loadS (l := [.slice (Ab) (lb.length) (cb), .slice (Bb) (fb.length) (eb)]) Tryz.isAgg30 Tryz.sizeOf30 rfl rfl (hC.cellsAll 0 rfl)) (f_free rfl (v := .pointer (some ⟨b1, 0, none⟩)) (fun w hC => x_fieldAddrO fa_30_0 rfl) (f_free rfl (v := .slice (Aa) (la.length) (ca)) (fun w hC => x_load Tryz.isAgg22 rfl (hC.cell 1 rfl rfl)) (f_free rfl (v := .int .i64 ((la.length : Nat))) (fun w hC => x_len_slice Tryz.underlying22 rfl) ?_))))
 refine f_new rfl (v := fun b => .slice (some ⟨b, 0, none⟩) (la.length) (la.length)) (o := .cells (List.replicate (la.length) (.slice (none) (0) (0))).toArray 28) hF (x_make1 (z := .slice (none) (0) (0)) el_44 (by kernel_rfl) rfl rfl rfl (by omega) (by decide)) ?_
 clear hF; rintro b3 w hb3 hF -
 refine ⟨hF.sub (.cons _ (.cons_cons _ (.cons_cons _ .slnil))), ?_⟩
 refine f_free rfl (v := .agg #[.slice (Aa) (la.length) (ca), .slice (Ba) (fa.length) (ea), .slice (Ab) (lb.length) (cb), .slice (Bb) (fb.length) (eb), .slice (some ⟨b3, 0, none⟩) (la.length) (la.length)]) (fun w hC => by kernel_rfl) ?_
 refine f_new rfl (v := fun b => .pointer (some ⟨b, 0, none⟩)) (o := .cells #[.slice (Aa) (la.length) (ca), .slice (Ba) (fa.length) (ea), .slice (Ab) (lb.length) (cb), .slice (Bb) (fb.length) (eb), .slice (some ⟨b3, 0, none⟩) (la.length) (la.length)] 69) hF (x_box (v := .agg #[.slice (Aa) (la.length) (ca), .slice (Ba) (fa.length) (ea), .slice (Ab) (lb.length) (cb), .slice (Bb) (fb.length) (eb), .slice (some ⟨b3, 0, none⟩) (la.length) (la.length)]) rfl) ?_
 clear hF; rintro b4 w hb4 hF -
 refine ⟨hF.sub (.cons _ (.cons _ (.cons_cons _ (.cons_cons _ .slnil)))), ?_⟩
 refine f_free rfl (v := .pointer (some ⟨b4, 0, none⟩)) (fun w hC => x_assign rfl) (d_nil (e_seq (c_seq (c_seq ?_))))
 rw [rowsA_zero la.length lb.length (fun _ => 0)] at hF
 have hW : RowsOk w0 w 0 lb.length (fun _ => 0) [b4, b3, b2, b1] := ⟨fun k hk => absurd hk (by omega), fun k l hk => absurd hk (by omega), fun k hk => absurd hk (by omega)⟩
 refine c_region (o_val (x_move rfl) (o_val (v := .pointer (some ⟨b4, 0, none⟩)) (x_nilCheck rfl) (o_val (v := .pointer (some ⟨b4, 4, none⟩)) (x_fieldAddrO fa_69_2 rfl) (o_val (v := .slice (some ⟨b3, 0, none⟩) (la.length) (la.length)) (x_load Tryz.isAgg44 rfl (hF.cell 0 rfl rfl)) (o_val (v := .int .i64 ((la.length : Nat))) (x_len_slice Tryz.underlying44 rfl) (o_val (x_move rfl) (o_nil (e_seq (c_block ?_)))))))))
 refine c_loop (fun μ σ w => ∃ (i : Nat), ∃ (q : Nat → Nat), μ = la.length - i ∧ (i ≤ la.length) ∧ (RowsOk w0 w i lb.length q [b4, b3, b2, b1]) ∧ AllEq σ [(2, .pointer (some ⟨b1, 0, none⟩)), (3, .pointer (some ⟨b2, 0, none⟩)), (6, .pointer (some ⟨b4, 0, none⟩)), (32, .int .i64 ((la.length : Nat))), (33, .int .i64 ((i : Int)))] ∧ FR w0 [] [(b4, .cells #[.slice (Aa) (la.length) (ca), .slice (Ba) (fa.length) (ea), .slice (Ab) (lb.length) (cb), .slice (Bb) (fb.length) (eb), .slice (some ⟨b3, 0, none⟩) (la.length) (la.length)] 69), (b3, .cells (rowsA la.length lb.length (i) q) 28), (b2, .cells #[.slice (Ab) (lb.length) (cb), .slice (Bb) (fb.length) (eb)] 30), (b1, .cells #[.slice (Aa) (la.length) (ca), .slice (Ba) (fa.length) (ea)] 30)] w) _ ⟨0, fun _ => 0, rfl, (Nat.zero_le _), (hW), ⟨rfl, rfl, rfl, rfl, rfl, trivial⟩, hF⟩ ?_
 clear hF; rintro μ σ w ⟨i, q, rfl, hi, hW, hs, hF⟩
 refine Cg.slots hs ?_
 clear hs; intro σ
 refine c_seq (c_region (o_val (v := .bool (decide (((i : Int) : Int) < ((la.length : Nat) : Int)))) (x_lss rfl rfl) (o_nil (e_seq (c_seq ?_)))))
 refine c_splitd (d := 34) (p := ((i : Int) : Int) < ((la.length : Nat) : Int)) rfl (fun hc1 => ?_) (fun hc1 => ?_)
 refine c_ift rfl (c_skip (e_seq (c_seq (c_block (c_seq (c_region (o_val (x_move rfl) (o_val (x_assign rfl) (o_nil (e_seq ?_))))))))))
 refine c_drawF [10] (.free 0 (.free 1 (.free 2 (.free 3 (.free 4 (.free 5 (.free 6 (.free 7 (.act 8 (.free 9 (.act 10 .nil))))))))))) (by kernel_rfl) hF (by kernel_rfl) (by kernel_rfl) ?_
 clear hF; intro w hF hE
 replace hW := hW.step hE (by simp)
 clear hE
 refine ⟨fun wq => FR w0 [] [(b4, .cells #[.slice (Aa) (la.length) (ca), .slice (Ba) (fa.length) (ea), .slice (Ab) (lb.length) (cb), .slice (Bb) (fb.length) (eb), .slice (some ⟨b3, 0, none⟩) (la.length) (la.length)] 69), (b2, .cells #[.slice (Ab) (lb.length) (cb), .slice (Bb) (fb.length) (eb)] 30), (b1, .cells #[.slice (Aa) (la.length) (ca), .slice (Ba) (fa.length) (ea)] 30)] wq, hF.sub (.cons_cons _ (.cons _ (.cons_cons _ (.cons_cons _ .slnil)))), ?_⟩
 refine f_free rfl (v := .pointer (some ⟨b4, 0, none⟩)) (fun w hC => x_move rfl) (f_free rfl (v := .pointer (some ⟨b4, 0, none⟩)) (fun w hC => x_nilCheck rfl) (f_free rfl (v := .pointer (some ⟨b4, 4, none⟩)) (fun w hC => x_fieldAddrO fa_69_2 rfl) (f_free rfl (v := .slice (some ⟨b3, 0, none⟩) (la.length) (la.length)) (fun w hC => x_load Tryz.isAgg44 rfl (hC.cell 0 rfl rfl)) (f_free rfl (v := .int .i64 ((i : Int))) (fun w hC => x_move rfl) (f_free rfl (v := .pointer (some ⟨b2, 0, none⟩)) (fun w hC => x_fieldAddrO fa_30_0 rfl) (f_free rfl (v := .slice (Ab) (lb.length) (cb)) (fun w hC => x_load Tryz.isAgg22 rfl (hC.cell 1 rfl rfl)) (f_free rfl (v := .int .i64 ((lb.length : Nat))) (fun w hC => x_len_slice Tryz.underlying22 rfl) ?_)))))))
 refine f_new rfl (v := fun b => .slice (some ⟨b, 0, none⟩) (lb.length) (lb.length)) (o := .cells (intsA (lb.length) fun _ => 0) 3) hF (x_makeI el_28 (by kernel_rfl) rfl rfl (by omega)) ?_
 clear hF; intro b5 w hb5 hF hE
 have hq5 : ∀ k, k < i → q k ≠ b5 := fun k hk e => by have h1 := lt_of_some (hW.row k hk); omega
 replace hW := hW.step hE (by simp)
 clear hE
 refine ⟨hF.sub (.cons _ (.cons_cons _ (.cons _ (.cons_cons _ (.cons_cons _ .slnil))))), ?_⟩
 refine f_free rfl (v := .pointer (some ⟨b3, i, none⟩)) (fun w hC => x_indexAddrO (i := ((i : Nat) : Int)) (i) sl_44 rfl rfl (by omega) (by omega) (by omega)) ?_
 refine f_storez rfl 2 (l := [.slice (some ⟨b5, 0, none⟩) lb.length lb.length]) (cs' := rowsA la.length lb.length (i + 1) (qset q i b5)) hF Tryz.sizeOf28 rfl rfl rfl (by simp [one]) rfl (by rw [rowsA_size]; simp only [List.length_singleton]; omega) (rowsA_put (by omega)) ?_
 clear hF; intro w hF hE
 replace hW := hW.step hE (by simp)
 clear hE
 refine d_nil (e_block (e_seq (c_region (o_val (v := .int .i64 (((i + 1 : Nat) : Int))) (x_add rfl rfl (wrap_to (by omega) (by omega) (by omega))) (o_val (x_move rfl) (o_nil ?_))))))
 refine e_inv ⟨_, ?_, i + 1, qset q i b5, rfl, (by omega), (hW.put (hF.heap (i := 0) rfl) (hF.ge (i := 0) rfl) (show b5 ∉ [b4, b3, b2, b1] from FR.new_ids hF) (fun k hk e => hq5 k hk e)), ⟨rfl, rfl, rfl, rfl, rfl, trivial⟩, hF.drop 1⟩
 omega
 refine c_iff rfl ?_
 refine c_exit (e_exit rfl ?_)
 refine e_seq (c_seq (c_seq ?_))
 obtain rfl : i = la.length := by omega
 obtain ⟨N0, hN0⟩ : ∃ N, N = w.heap.size := ⟨_, rfl⟩
 have hNw : N0 ≤ w.heap.size := Nat.le_of_eq hN0
 have hb34 : b4 ≠ b3 := by have := (List.pairwise_cons.1 hF.desc).1 _ (List.mem_cons_self ..); exact fun e => this e.symm
 have hsk : ∀ b, b < w0.heap.size → Sk N0 la.length q b := fun b hb => ⟨by have := hF.same.size; omega, fun i hi e => by have := (hW.new i hi).1; omega⟩
 have hlt3 := hF.lt (i := 1) rfl
 have hlt4 := hF.lt (i := 0) rfl
 have hK : Rk w N0 b4 b3 q la fa lb fb Aa Ba Ab Bb ca ea cb eb (fun _ _ => 0) := ⟨hF.heap (i := 0) rfl, (hF.rep hLa.old).weaken (fun b hb _ => hsk b hb.2), (hF.rep hNa.old).weaken (fun b hb _ => hsk b hb.2), (hF.rep hLb.old).weaken (fun b hb _ => hsk b hb.2), (hF.rep hNb.old).weaken (fun b hb _ => hsk b hb.2), ⟨by rw [← rowsA_done]; exact hF.heap (i := 1) rfl, hW.row, hW.inj, fun i hi e => (hW.new i hi).2 (by simp [e])⟩, ⟨by omega, by omega, fun i hi => by rw [hN0]; exact lt_of_some (hW.row i hi)⟩, fun i hi e => (hW.new i hi).2 (by simp [e])⟩
 have hqn := hW.new
 refine c_region (o_val (v := .agg #[.slice (Aa) (la.length) (ca), .slice (Ba) (fa.length) (ea)]) (x_loadS (l := [.slice (Aa) (la.length) (ca), .slice (Ba) (fa.length) (ea)]) Tryz.isAgg30 Tryz.sizeOf30 rfl rfl (hF.cellsAll 3 rfl)) ?_)
 refine o_call (keyroots_c _ _ la fa Aa Ba ca ea (hF.rep hLa) (hF.rep hNa) hRa) (x_call1 en_55 rfl rfl) ?_
 rintro _ w ⟨Ak, ck, rfl, hk_, hE⟩
 have hKa : Rep (fun b => N0 ≤ b) w (.slice (((kroots fa).map fun i : Nat => (i : Int)).map intD)) [.slice Ak (kroots fa).length ck] := hk_.weaken fun b hb _ => Nat.le_trans hNw hb.1
 replace hF := hF.ext hE
 replace hK := hK.ext hE
 replace hNw := Nat.le_trans hNw hE.size
 clear hE hk_
 refine o_val (v := .int .i64 (((kroots fa).length : Nat))) (x_len_slice Tryz.underlying28 rfl) (o_val (x_move rfl) (o_nil (e_seq (c_block ?_))))
 refine c_loop (fun μ σ w => ∃ (s : Nat), ∃ (P : Nat → Nat → Int), μ = (kroots fa).length - s ∧ (s ≤ (kroots fa).length) ∧ (Rk w N0 b4 b3 q la fa lb fb Aa Ba Ab Bb ca ea cb eb P) ∧ (∀ x y, x < fa.length → y < fb.length → Known fa fb (s) (0) x y → P x y = ((td (nodesT la fa) (nodesT lb fb) x y : Nat) : Int)) ∧ (Rep (fun b => N0 ≤ b) w (.slice (((kroots fa).map fun i : Nat => (i : Int)).map intD)) [.slice Ak (kroots fa).length ck]) ∧ (N0 ≤ w.heap.size) ∧ AllEq σ [(2, .pointer (some ⟨b1, 0, none⟩)), (3, .pointer (some ⟨b2, 0, none⟩)), (6, .pointer (some ⟨b4, 0, none⟩)), (48, .slice (Ak) ((kroots fa).length) (ck)), (49, .int .i64 (((kroots fa).length : Nat))), (50, .int .i64 ((s : Int)))] ∧ FR w0 [] [(b4, .cells #[.slice (Aa) (la.length) (ca), .slice (Ba) (fa.length) (ea), .slice (Ab) (lb.length) (cb), .slice (Bb) (fb.length) (eb), .slice (some ⟨b3, 0, none⟩) (la.length) (la.length)] 69), (b3, .cells (rowsA la.length lb.length (la.length) q) 28), (b2, .cells #[.slice (Ab) (lb.length) (cb), .slice (Bb) (fb.length) (eb)] 30), (b1, .cells #[.slice (Aa) (la.length) (ca), .slice (Ba) (fa.length) (ea)] 30)] w) _ ⟨0, fun _ _ => 0, rfl, (Nat.zero_le _), (hK), (fun x y hx hy h => absurd h known_none), (hKa), (hNw), ⟨rfl, rfl, rfl, rfl, rfl, rfl, trivial⟩, hF⟩ ?_
 clear hF; rintro μ σ w ⟨s, P, rfl, hs_, hK, hkn, hKa, hNw, hs, hF⟩
 refine Cg.slots hs ?_
 clear hs; intro σ
 refine c_seq (c_region (o_val (v := .bool (decide (((s : Int) : Int) < (((kroots fa).length : Nat) : Int)))) (x_lss rfl rfl) (o_nil (e_seq (c_seq ?_)))))
 refine c_splitd (d := 51) (p := ((s : Int) : Int) < (((kroots fa).length : Nat) : Int)) rfl (fun hc2 => ?_) (fun hc2 => ?_)
 refine c_ift rfl (c_skip (e_seq (c_seq (c_block (c_seq ?_)))))
 obtain ⟨k, hkk⟩ : ∃ z, z = (kroots fa)[s] := ⟨_, rfl⟩
 refine c_region ?_
 obtain ⟨ad0, hA0, hk0, hx0⟩ := hKa.int_elem (i := s) (by simp only [List.length_map]; omega)
 rw [List.getElem_map, ← hkk] at hk0
 refine o_val (v := .pointer (some (ad0.add (s * 1)))) (x_indexAddrA (i := (s : Int)) sl_28 rfl hA0 rfl (by omega) (by omega)) (o_val (v := .int .i64 ((k : Nat))) (x_load Tryz.isAgg3 rfl hk0) (o_val (x_assign rfl) (o_nil (e_seq (c_seq (c_region (o_val (v := .agg #[.slice (Ab) (lb.length) (cb), .slice (Bb) (fb.length) (eb)]) (x_loadS (l := [.slice (Ab) (lb.length) (cb), .slice (Bb) (fb.length) (eb)]) Tryz.isAgg30 Tryz.sizeOf30 rfl rfl (hF.cellsAll 2 rfl)) ?_)))))))
 refine o_call (keyroots_c _ _ lb fb Ab Bb cb eb (hF.rep hLb) (hF.rep hNb) hRb) (x_call1 en_55 rfl rfl) ?_
 rintro _ w ⟨Al, cl, rfl, hk_, hE⟩
 have hKb : Rep (fun b => N0 ≤ b) w (.slice (((kroots fb).map fun i : Nat => (i : Int)).map intD)) [.slice Al (kroots fb).length cl] := hk_.weaken fun b hb _ => Nat.le_trans hNw hb.1
 replace hF := hF.ext hE
 replace hK := hK.ext hE
 replace hKa := hKa.ext hE
 replace hNw := Nat.le_trans hNw hE.size
 clear hE hk_
 refine o_val (v := .int .i64 (((kroots fb).length : Nat))) (x_len_slice Tryz.underlying28 rfl) (o_val (x_move rfl) (o_nil (e_seq (c_block ?_))))
 refine c_loop (fun μ σ w => ∃ (t : Nat), ∃ (P : Nat → Nat → Int), μ = (kroots fb).length - t ∧ (t ≤ (kroots fb).length) ∧ (Rk w N0 b4 b3 q la fa lb fb Aa Ba Ab Bb ca ea cb eb P) ∧ (∀ x y, x < fa.length → y < fb.length → Known fa fb (s) (t) x y → P x y = ((td (nodesT la fa) (nodesT lb fb) x y : Nat) : Int)) ∧ (Rep (fun b => N0 ≤ b) w (.slice (((kroots fa).map fun i : Nat => (i : Int)).map intD)) [.slice Ak (kroots fa).length ck]) ∧ (Rep (fun b => N0 ≤ b) w (.slice (((kroots fb).map fun i : Nat => (i : Int)).map intD)) [.slice Al (kroots fb).length cl]) ∧ (N0 ≤ w.heap.size) ∧ AllEq σ [(2, .pointer (some ⟨b1, 0, none⟩)), (3, .pointer (some ⟨b2, 0, none⟩)), (6, .pointer (some ⟨b4, 0, none⟩)), (9, .int .i64 ((k : Nat))), (48, .slice (Ak) ((kroots fa).length) (ck)), (49, .int .i64 (((kroots fa).length : Nat))), (50, .int .i64 ((s : Int))), (55, .slice (Al) ((kroots fb).length) (cl)), (56, .int .i64 (((kroots fb).length : Nat))), (57, .int .i64 ((t : Int)))] ∧ FR w0 [] [(b4, .cells #[.slice (Aa) (la.length) (ca), .slice (Ba) (fa.length) (ea), .slice (Ab) (lb.length) (cb), .slice (Bb) (fb.length) (eb), .slice (some ⟨b3, 0, none⟩) (la.length) (la.length)] 69), (b3, .cells (rowsA la.length lb.length (la.length) q) 28), (b2, .cells #[.slice (Ab) (lb.length) (cb), .slice (Bb) (fb.length) (eb)] 30), (b1, .cells #[.slice (Aa) (la.length) (ca), .slice (Ba) (fa.length) (ea)] 30)] w) _ ⟨0, P, rfl, (Nat.zero_le _), (hK), (hkn), (hKa), (hKb), (hNw), ⟨rfl, rfl, rfl, rfl, rfl, rfl, rfl, rfl, rfl, rfl, trivial⟩, hF⟩ ?_
 clear hF; rintro μ σ w ⟨t, P, rfl, ht_, hK, hkn, hKa, hKb, hNw, hs, hF⟩
 refine Cg.slots hs ?_
 clear hs; intro σ
 refine c_seq (c_region (o_val (v := .bool (decide (((t : Int) : Int) < (((kroots fb).length : Nat) : Int)))) (x_lss rfl rfl) (o_nil (e_seq (c_seq ?_)))))
 refine c_splitd (d := 58) (p := ((t : Int) : Int) < (((kroots fb).length : Nat) : Int)) rfl (fun hc3 => ?_) (fun hc3 => ?_)
 refine c_ift rfl (c_skip (e_seq (c_seq (c_block (c_seq ?_)))))
 obtain ⟨l, hll⟩ : ∃ z, z = (kroots fb)[t] := ⟨_, rfl⟩
 refine c_region ?_
 obtain ⟨ad1, hA1, hk1, hx1⟩ := hKb.int_elem (i := t) (by simp only [List.length_map]; omega)
 rw [List.getElem_map, ← hll] at hk1
 refine o_val (v := .pointer (some (ad1.add (t * 1)))) (x_indexAddrA (i := (t : Int)) sl_28 rfl hA1 rfl (by omega) (by omega)) (o_val (v := .int .i64 ((l : Nat))) (x_load Tryz.isAgg3 rfl hk1) (o_val (x_assign rfl) (o_nil (e_seq ?_))))
 have hk_lt := (kroots_mem.1 (List.getElem_mem (l := kroots fa) (n := s) (by omega))).1
 have hl_lt := (kroots_mem.1 (List.getElem_mem (l := kroots fb) (n := t) (by omega))).1
 rw [← hkk] at hk_lt
 rw [← hll] at hl_lt
 obtain ⟨u, hu⟩ : ∃ z, z = lfN fa k := ⟨_, rfl⟩
 obtain ⟨v, hv⟩ : ∃ z, z = lfN fb l := ⟨_, rfl⟩
 have hfu : (u : Int) = fa[k] := by rw [hu]; exact hRa.2.2.at hk_lt hk_lt
 have hfv : (v : Int) = fb[l] := by rw [hv]; exact hRb.2.2.at hl_lt hl_lt
 have huk : u ≤ k := by rw [hu]; exact Nat.min_le_right _ _
 have hvl : v ≤ l := by rw [hv]; exact Nat.min_le_right _ _
 obtain ⟨n, hn⟩ : ∃ z, z = k + 1 - u := ⟨_, rfl⟩
 obtain ⟨m, hm⟩ : ∃ z, z = l + 1 - v := ⟨_, rfl⟩
 have hca : ∀ i, u ≤ i → i < u + n → u ≤ lfN fa i := fun i h1 h2 => by by_cases e : i = k; (subst e; omega); (have := hRa.2.2.nest (Nat.le_refl _) la k hk_lt i (by show lfN fa k ≤ i; omega) (by omega); have e1 : (nodesT la fa).lf k = lfN fa k := rfl; have e2 : (nodesT la fa).lf i = lfN fa i := rfl; omega)
 have hcb : ∀ j, v ≤ j → j < v + m → v ≤ lfN fb j := fun i h1 h2 => by by_cases e : i = l; (subst e; omega); (have := hRb.2.2.nest (Nat.le_refl _) lb l hl_lt i (by show lfN fb l ≤ i; omega) (by omega); have e1 : (nodesT lb fb).lf l = lfN fb l := rfl; have e2 : (nodesT lb fb).lf i = lfN fb i := rfl; omega)
 have hP0 : ∀ i j, u ≤ i → i < u + n → v ≤ j → j < v + m → ¬ (lfN fa i = u ∧ lfN fb j = v) → P i j = ((td (nodesT la fa) (nodesT lb fb) i j : Nat) : Int) := fun i j h1 h2 h3 h4 hne => hkn i j (by omega) (by omega) (known_ahead hRa.2.2 hRb.2.2 (u := s) (v := t) (by omega) (by omega) (by rw [← hkk, ← hu]; exact h1) (by rw [← hkk]; omega) (by rw [← hll, ← hv]; exact h3) (by rw [← hll]; omega) (by rw [← hkk, ← hll, ← hu, ← hv]; exact hne))
 refine c_drawF [] (.free 0 (.free 1 (.free 2 (.free 3 (.free 4 (.free 5 (.free 6 (.free 7 (.free 8 (.free 9 (.free 10 (.free 11 (.free 12 (.free 13 (.free 14 (.act 15 .nil)))))))))))))))) (by kernel_rfl) hF (by kernel_rfl) (by kernel_rfl) ?_
 clear hF; intro w hF hE
 replace hK := hK.ext hE
 replace hKa := hKa.ext hE
 replace hKb := hKb.ext hE
 replace hNw := Nat.le_trans hNw hE.size
 clear hE
 refine ⟨fun wq => FR w0 [] [(b4, .cells #[.slice (Aa) (la.length) (ca), .slice (Ba) (fa.length) (ea), .slice (Ab) (lb.length) (cb), .slice (Bb) (fb.length) (eb), .slice (some ⟨b3, 0, none⟩) (la.length) (la.length)] 69), (b3, .cells (rowsA la.length lb.length (la.length) q) 28), (b2, .cells #[.slice (Ab) (lb.length) (cb), .slice (Bb) (fb.length) (eb)] 30), (b1, .cells #[.slice (Aa) (la.length) (ca), .slice (Ba) (fa.length) (ea)] 30)] wq, hF, ?_⟩
 refine f_free rfl (v := .pointer (some ⟨b4, 0, none⟩)) (fun w hC => x_move rfl) (f_free rfl (v := .pointer (some ⟨b1, 1, none⟩)) (fun w hC => x_fieldAddrO fa_30_1 rfl) (f_free rfl (v := .slice (Ba) (fa.length) (ea)) (fun w hC => x_load Tryz.isAgg28 rfl (hC.cell 3 rfl rfl)) (f_free rfl (v := .int .i64 ((k : Nat))) (fun w hC => x_move rfl) ?_)))
 obtain ⟨ad2, hA2, hk2, hx2⟩ := hNa.int_elem (i := k) (by omega)
 rw [← hfu] at hk2
 refine f_free rfl (v := .pointer (some (ad2.add (k * 1)))) (fun w hC => x_indexAddrA (i := (k : Nat)) sl_28 rfl hA2 rfl (by omega) (by omega)) (f_free rfl (v := .int .i64 ((u : Nat))) (fun w hC => x_load Tryz.isAgg3 rfl (hC.cell0 hk2)) (f_free rfl (v := .int .i64 ((k : Nat))) (fun w hC => x_move rfl) (f_free rfl (v := .int .i64 (((u + n : Nat) : Int))) (fun w hC => x_add rfl rfl (wrap_to (by omega) (by omega) (by omega))) (f_free rfl (v := .pointer (some ⟨b2, 1, none⟩)) (fun w hC => x_fieldAddrO fa_30_1 rfl) (f_free rfl (v := .slice (Bb) (fb.length) (eb)) (fun w hC => x_load Tryz.isAgg28 rfl (hC.cell 2 rfl rfl)) (f_free rfl (v := .int .i64 ((l : Nat))) (fun w hC => x_move rfl) ?_))))))
 obtain ⟨ad3, hA3, hk3, hx3⟩ := hNb.int_elem (i := l) (by omega)
 rw [← hfv] at hk3
 refine f_free rfl (v := .pointer (some (ad3.add (l * 1)))) (fun w hC => x_indexAddrA (i := (l : Nat)) sl_28 rfl hA3 rfl (by omega) (by omega)) (f_free rfl (v := .int .i64 ((v : Nat))) (fun w hC => x_load Tryz.isAgg3 rfl (hC.cell0 hk3)) (f_free rfl (v := .int .i64 ((l : Nat))) (fun w hC => x_move rfl) (f_free rfl (v := .int .i64 (((v + m : Nat) : Int))) (fun w hC => x_add rfl rfl (wrap_to (by omega) (by omega) (by omega))) ?_)))
 refine f_call rfl (forest_c _ N0 b4 b3 q la fa lb fb Aa Ba Ab Bb ca ea cb eb P hK u n v m hNw (by omega) (by omega) (by omega) (by omega) hRa.2.2 hRb.2.2 (by omega) (by omega) hca hcb hP0) (x_call5 en_32 rfl rfl rfl rfl rfl rfl) ?_
 rintro _ w ⟨gb, gc, f, P', rfl, -, -, -, hK', hPr, hPo, -, -, hE⟩
 have hrw : ∀ b ∈ Rows q la.length, ¬ N0 ≤ b := fun b hb h => by obtain ⟨i, hi, rfl⟩ := mem_Rows.1 hb; have := hK.lt.2.2 i hi; omega
 replace hF := hF.touch hE (fun b hb => by obtain ⟨i, hi, rfl⟩ := mem_Rows.1 hb; refine ⟨fun h => absurd (hqn i hi).1 (by omega), fun z hz e => (hqn i hi).2 ?_⟩; rw [← e]; simp only [List.mem_cons, List.not_mem_nil, or_false] at hz; rcases hz with rfl | rfl | rfl | rfl <;> simp)
 replace hKa := hKa.same hE hrw
 replace hKb := hKb.same hE hrw
 replace hNw := Nat.le_trans hNw hE.size
 clear hK
 have hK := hK'
 clear hE hK'
 refine ⟨hF, ?_⟩
 refine d_nil (e_block (e_seq (c_region (o_val (v := .int .i64 (((t + 1 : Nat) : Int))) (x_add rfl rfl (wrap_to (by omega) (by omega) (by omega))) (o_val (x_move rfl) (o_nil ?_))))))
 refine e_inv ⟨_, ?_, t + 1, P', rfl, (by omega), (hK), (fun x y hx hy hxy => by (by_cases hr : Rt fa fb u n v m x y); (exact hPr x y hr); (rw [hPo x y hr]; rcases known_next (by omega) (by omega) hxy with h1 | ⟨h1, h2⟩; (exact hkn x y hx hy h1); (exfalso; rw [← hkk, ← hu] at h1; rw [← hll, ← hv] at h2; have q1 := lt_kroot hRa.2.2 (k := k) (by rw [hkk]; exact List.getElem_mem _) hx (by rw [h1, hu]); have q2 := lt_kroot hRb.2.2 (k := l) (by rw [hll]; exact List.getElem_mem _) hy (by rw [h2, hv]); exact hr ⟨by omega, by omega, by omega, by omega, h1, h2⟩))), (hKa), (hKb), (hNw), ⟨rfl, rfl, rfl, rfl, rfl, rfl, rfl, rfl, rfl, rfl, trivial⟩, hF⟩
 omega
 refine c_iff rfl ?_
 refine c_exit (e_exit rfl ?_)
 refine e_block (e_seq (c_region (o_val (v := .int .i64 (((s + 1 : Nat) : Int))) (x_add rfl rfl (wrap_to (by omega) (by omega) (by omega))) (o_val (x_move rfl) (o_nil ?_)))))
 refine e_inv ⟨_, ?_, s + 1, P, rfl, (by omega), (hK), (fun x y hx hy h => hkn x y hx hy (by obtain rfl : t = (kroots fb).length := (by omega); exact known_row (by omega) hy hRb.2.2 h)), (hKa), (hNw), ⟨rfl, rfl, rfl, rfl, rfl, rfl, trivial⟩, hF⟩
 omega
 refine c_iff rfl ?_
 refine c_exit (e_exit rfl ?_)
 refine e_seq (c_seq (c_region (o_val (x_move rfl) (o_val (x_assign rfl) (o_val (x_assign rfl) (o_nil (e_seq ?_)))))))
 refine c_ret (e_ret (post_ret (res_2 (v := .pointer (some ⟨b4, 0, none⟩)) (x := .bool true) rfl rfl rfl) ?_))
 obtain rfl : s = (kroots fa).length := by omega
 exact ⟨N0, b4, b3, q, P, rfl, hK, fun x y hx hy => hkn x y (by omega) (by omega) (known_all hRa.2.2 (by omega)), hNw, fun i hi => (hqn i hi).1, hF.same⟩
end Go.Scarf
namespace Go.Scarf
open Go.RowKit Go.Proofs
set_option maxHeartbeats 1000000 in
set_option maxRecDepth 10000 in
theorem cost_no (S S' : Nat → Prop) (w0 : World) (la : List Str) (fa : List Int) (Aa Ba : Option Addr) (ca ea : Nat) (hLa : Rep S w0 (strsD la) [.slice Aa la.length ca]) (hNa : Rep S w0 (.slice (fa.map intD)) [.slice Ba fa.length ea]) (lb : List Str) (fb : List Int) (Ab Bb : Option Addr) (cb eb : Nat) (hLb : Rep S' w0 (strsD lb) [.slice Ab lb.length cb]) (hNb : Rep S' w0 (.slice (fb.map intD)) [.slice Bb fb.length eb]) (hR : ¬ (RightT la fa ∧ RightT lb fb)) : Calls Tryz.prog 15 #[.agg #[.slice Aa la.length ca, .slice Ba fa.length ea], .agg #[.slice Ab lb.length cb, .slice Bb fb.length eb]] w0 (Ret fun v w' => v = .tuple #[.int .i64 0, .int .i64 1] ∧ Same [] w0 w') := by
 have hLla := hLa.slice_len
 have hNla := hNa.slice_len
 rw [List.length_map] at hLla hNla
 have hLlb := hLb.slice_len
 have hNlb := hNb.slice_len
 rw [List.length_map] at hLlb hNlb
 refine calls_start Tryz.func15 rfl Tryz.ntmps15 (Nat.le_of_ble_eq_true rfl) (args_2 _ _) ?_
 have hF := FR.start w0 []
 refine c_seq (c_region ?_)
 refine o_box (v := .agg #[.slice (Aa) (la.length) (ca), .slice (Ba) (fa.length) (ea)]) (cs := #[.slice (Aa) (la.length) (ca), .slice (Ba) (fa.length) (ea)]) hF rfl rfl ?_
 clear hF; rintro b1 w hb1 hF -
 refine o_box (v := .agg #[.slice (Ab) (lb.length) (cb), .slice (Bb) (fb.length) (eb)]) (cs := #[.slice (Ab) (lb.length) (cb), .slice (Bb) (fb.length) (eb)]) hF rfl rfl ?_
 clear hF; rintro b2 w hb2 hF -
 refine o_val (x_assign rfl) (o_val (x_assign rfl) (o_nil (e_seq (c_seq (c_region (o_val (v := .agg #[.slice (Aa) (la.length) (ca), .slice (Ba) (fa.length) (ea)]) (x_loadS (l := [.slice (Aa) (la.length) (ca), .slice (Ba) (fa.length) (ea)]) Tryz.isAgg30 Tryz.sizeOf30 rfl rfl (hF.cellsAll 1 rfl)) (o_val (v := .agg #[.slice (Ab) (lb.length) (cb), .slice (Bb) (fb.length) (eb)]) (x_loadS (l := [.slice (Ab) (lb.length) (cb), .slice (Bb) (fb.length) (eb)]) Tryz.isAgg30 Tryz.sizeOf30 rfl rfl (hF.cellsAll 0 rfl)) ?_)))))))
 refine o_call (reckoned_no _ _ _ la fa Aa Ba ca ea (hF.rep hLa) (hF.rep hNa) lb fb Ab Bb cb eb (hF.rep hLb) (hF.rep hNb) hR) (x_call2 en_31 rfl rfl rfl) ?_
 rintro _ w ⟨rfl, hE⟩
 replace hF := hF.ext hE
 clear hE
 refine o_val (x_move rfl) (o_val (x_extract rfl rfl) (o_val (x_extract rfl rfl) (o_val (x_assign rfl) (o_val (x_assign rfl) (o_nil (e_seq (c_seq (c_seq (c_region (o_val (x_move rfl) (o_val (v := .bool true) (x_not (b := false) rfl) (o_nil (e_seq ?_)))))))))))))
 refine c_ift rfl (c_seq (c_region (o_val (x_assign rfl) (o_val (x_assign rfl) (o_nil (e_seq ?_))))))
 refine c_ret (e_ret (post_ret (res_2 (v := .int .i64 (0)) (x := .int .i64 (1)) rfl rfl rfl) ?_))
 exact ⟨rfl, hF.same⟩
theorem forest_all (w0 : World) (N0 rb pb : Nat) (q : Nat → Nat) (la : List Str) (fa : List Int) (lb : List Str) (fb : List Int) (Aa Ba Ab Bb : Option Addr) (k1 k2 k3 k4 : Nat) (P0 : Nat → Nat → Int) (hK : Rk w0 N0 rb pb q la fa lb fb Aa Ba Ab Bb k1 k2 k3 k4 P0) (hN0 : N0 ≤ w0.heap.size) (hRa : RightT la fa) (hRb : RightT lb fb) (hP : ∀ x y, x < la.length → y < lb.length → P0 x y = ((td (nodesT la fa) (nodesT lb fb) x y : Nat) : Int)) :
    Calls Tryz.prog 32 #[.pointer (some ⟨rb, 0, none⟩), .int .i64 0, .int .i64 (la.length : Nat), .int .i64 0, .int .i64 (lb.length : Nat)] w0 (Ret fun v w' => ∃ (gb gc : Nat) (f : Nat → Int), v = .pointer (some ⟨gb, 0, none⟩) ∧ w'.heap[gb]? = some (.cells #[.int .i64 ((lb.length + 1 : Nat) : Int), .slice (some ⟨gc, 0, none⟩) ((la.length + 1) * (lb.length + 1)) ((la.length + 1) * (lb.length + 1))] 84) ∧ w'.heap[gc]? = some (.cells (intsA ((la.length + 1) * (lb.length + 1)) f) 3) ∧ f (gi lb.length la.length lb.length) = ((costT la fa lb fb : Nat) : Int) ∧ Same (Rows q la.length) w0 w') := by
  have h := forest_c w0 N0 rb pb q la fa lb fb Aa Ba Ab Bb k1 k2 k3 k4 P0 hK 0 la.length 0 lb.length hN0 hRa.1 hRb.1 hRa.2.1 hRb.2.1 hRa.2.2 hRb.2.2 (by omega) (by omega) (fun i _ _ => Nat.zero_le _) (fun j _ _ => Nat.zero_le _) (fun i j _ h1 _ h2 _ => hP i j (by omega) (by omega))
  simp only [Nat.zero_add] at h
  refine h.mono ?_
  rintro e w' ⟨v, he, gb, gc, f, P, hv, hg, hc, hf, -, -, -, -, -, hs⟩
  refine ⟨v, he, gb, gc, f, hv, hg, hc, ?_, hs⟩
  rw [hf]
  unfold fdI costT
  rw [Nat.zero_add, Nat.zero_add]
set_option maxHeartbeats 2000000 in
set_option maxRecDepth 10000 in
theorem cost_yes (S S' : Nat → Prop) (w0 : World) (la : List Str) (fa : List Int) (Aa Ba : Option Addr) (ca ea : Nat) (hLa : Rep S w0 (strsD la) [.slice Aa la.length ca]) (hNa : Rep S w0 (.slice (fa.map intD)) [.slice Ba fa.length ea]) (lb : List Str) (fb : List Int) (Ab Bb : Option Addr) (cb eb : Nat) (hLb : Rep S' w0 (strsD lb) [.slice Ab lb.length cb]) (hNb : Rep S' w0 (.slice (fb.map intD)) [.slice Bb fb.length eb]) (hRa : RightT la fa) (hRb : RightT lb fb) : Calls Tryz.prog 15 #[.agg #[.slice Aa la.length ca, .slice Ba fa.length ea], .agg #[.slice Ab lb.length cb, .slice Bb fb.length eb]] w0 (Ret fun v w' => v = .tuple #[.int .i64 ((costT la fa lb fb : Nat) : Int), .int .i64 0] ∧ Same [] w0 w') := by
 have hLla := hLa.slice_len
 have hNla := hNa.slice_len
 rw [List.length_map] at hLla hNla
 have hLlb := hLb.slice_len
 have hNlb := hNb.slice_len
 rw [List.length_map] at hLlb hNlb
 have hR1 := hRa.1
 have hR2 := hRa.2.1
 have hR3 := hRb.1
 have hR4 := hRb.2.1
 refine calls_start Tryz.func15 rfl Tryz.ntmps15 (Nat.le_of_ble_eq_true rfl) (args_2 _ _) ?_
 have hF := FR.start w0 []
 refine c_seq (c_region ?_)
 refine o_box (v := .agg #[.slice (Aa) (la.length) (ca), .slice (Ba) (fa.length) (ea)]) (cs := #[.slice (Aa) (la.length) (ca), .slice (Ba) (fa.length) (ea)]) hF rfl rfl ?_
 clear hF; rintro b1 w hb1 hF -
 refine o_box (v := .agg #[.slice (Ab) (lb.length) (cb), .slice (Bb) (fb.length) (eb)]) (cs := #[.slice (Ab) (lb.length) (cb), .slice (Bb) (fb.length) (eb)]) hF rfl rfl ?_
 clear hF; rintro b2 w hb2 hF -
 refine o_val (x_assign rfl) (o_val (x_assign rfl) (o_nil (e_seq (c_seq (c_region (o_val (v := .agg #[.slice (Aa) (la.length) (ca), .slice (Ba) (fa.length) (ea)]) (x_loadS (l := [.slice (Aa) (la.length) (ca), .slice (Ba) (fa.length) (ea)]) Tryz.isAgg30 Tryz.sizeOf30 rfl rfl (hF.cellsAll 1 rfl)) (o_val (v := .agg #[.slice (Ab) (lb.length) (cb), .slice (Bb) (fb.length) (eb)]) (x_loadS (l := [.slice (Ab) (lb.length) (cb), .slice (Bb) (fb.length) (eb)]) Tryz.isAgg30 Tryz.sizeOf30 rfl rfl (hF.cellsAll 0 rfl)) ?_)))))))
 refine o_call (reckoned_yes _ _ _ la fa Aa Ba ca ea (hF.rep hLa) (hF.rep hNa) lb fb Ab Bb cb eb (hF.rep hLb) (hF.rep hNb) hRa hRb) (x_call2 en_31 rfl rfl rfl) ?_
 rintro _ w ⟨N0, rb, pb, q, P, rfl, hK, hP, hNw, hqn, hE⟩
 have hqn0 : ∀ i, i < la.length → w0.heap.size ≤ q i := fun i hi => Nat.le_trans hF.same.size (hqn i hi)
 have hqn1 : ∀ i, i < la.length → ∀ z ∈ [b2, b1], q i ≠ z := fun i hi z hz e => by have := hqn i hi; simp only [List.mem_cons, List.not_mem_nil, or_false] at hz; rcases hz with rfl | rfl; (have := hF.lt (i := 0) rfl; omega); (have := hF.lt (i := 1) rfl; omega)
 replace hF := hF.ext hE
 clear hE hqn
 refine o_val (x_move rfl) (o_val (x_extract rfl rfl) (o_val (x_extract rfl rfl) (o_val (x_assign rfl) (o_val (x_assign rfl) (o_nil (e_seq (c_seq (c_seq (c_region (o_val (x_move rfl) (o_val (v := .bool false) (x_not (b := true) rfl) (o_nil (e_seq ?_)))))))))))))
 refine c_iff rfl (c_skip (e_seq (c_seq ?_)))
 refine c_drawF [] (.free 0 (.free 1 (.free 2 (.free 3 (.free 4 (.free 5 (.free 6 (.free 7 .nil)))))))) (by kernel_rfl) hF (by kernel_rfl) (by kernel_rfl) ?_
 clear hF; intro w hF hE
 replace hK := hK.ext hE
 replace hNw := Nat.le_trans hNw hE.size
 clear hE
 refine ⟨fun wq => FR w0 [] [(b2, .cells #[.slice (Ab) (lb.length) (cb), .slice (Bb) (fb.length) (eb)] 30), (b1, .cells #[.slice (Aa) (la.length) (ca), .slice (Ba) (fa.length) (ea)] 30)] wq, hF, ?_⟩
 refine f_free rfl (v := .pointer (some ⟨b1, 0, none⟩)) (fun w hC => x_fieldAddrO fa_30_0 rfl) (f_free rfl (v := .slice (Aa) (la.length) (ca)) (fun w hC => x_load Tryz.isAgg22 rfl (hC.cell 1 rfl rfl)) (f_free rfl (v := .int .i64 ((la.length : Nat))) (fun w hC => x_len_slice Tryz.underlying22 rfl) (f_free rfl (v := .pointer (some ⟨b2, 0, none⟩)) (fun w hC => x_fieldAddrO fa_30_0 rfl) (f_free rfl (v := .slice (Ab) (lb.length) (cb)) (fun w hC => x_load Tryz.isAgg22 rfl (hC.cell 0 rfl rfl)) (f_free rfl (v := .int .i64 ((lb.length : Nat))) (fun w hC => x_len_slice Tryz.underlying22 rfl) (f_free rfl (v := .int .i64 ((la.length : Nat))) (fun w hC => x_assign rfl) (f_free rfl (v := .int .i64 ((lb.length : Nat))) (fun w hC => x_assign rfl) (d_nil (e_seq (c_seq (c_region (o_val (x_move rfl) (o_val (x_move rfl) ?_)))))))))))))
 refine o_val (x_move rfl) ?_
 refine o_call (forest_all _ N0 rb pb q la fa lb fb Aa Ba Ab Bb ca ea cb eb P hK hNw hRa hRb hP) (x_call5 en_32 rfl rfl rfl rfl rfl rfl) ?_
 rintro _ w ⟨gb, gc, f, rfl, hg, hc, hfv, hE⟩
 replace hF := hF.touch hE (fun b hb => by obtain ⟨i, hi, rfl⟩ := mem_Rows.1 hb; refine ⟨fun h => absurd (hqn0 i hi) (by omega), fun z hz e => hqn1 i hi z.1 ?_ e.symm⟩; simp only [List.mem_cons, List.not_mem_nil, or_false] at hz; rcases hz with rfl | rfl <;> simp)
 clear hE
 refine o_val (x_move rfl) (o_val (v := .int .i64 ((la.length : Int) - 1)) (x_sub rfl rfl (wrap_to (by omega) (by omega) (by omega))) (o_val (x_move rfl) (o_val (v := .int .i64 ((lb.length : Int) - 1)) (x_sub rfl rfl (wrap_to (by omega) (by omega) (by omega))) ?_)))
 refine o_call (gat_c _ gb gc la.length lb.length la.length lb.length _ _ (by omega) (by omega) hg (Nat.le_refl _) (Nat.le_refl _) (by omega) (by omega)) (x_call3 en_33 rfl rfl rfl rfl) ?_
 rintro _ w ⟨rfl, hE⟩
 replace hF := hF.ext hE
 replace hg := (hE.block gb (lt_of_some hg) (by simp)).trans hg
 replace hc := (hE.block gc (lt_of_some hc) (by simp)).trans hc
 clear hE
 refine o_val (v := .pointer (some ⟨gc, gi lb.length la.length lb.length, none⟩)) (x_nilCheck rfl) ?_
 refine o_val (v := .int .i64 ((costT la fa lb fb : Nat))) (x_load Tryz.isAgg3 rfl (by rw [cell_of_heap hc, intsA_get (gi_lt (Nat.le_refl _) (Nat.le_refl _)), hfv])) ?_
 refine o_val (x_assign rfl) (o_val (x_assign rfl) (o_nil (e_seq ?_)))
 refine c_ret (e_ret (post_ret (res_2 (v := .int .i64 ((costT la fa lb fb : Nat))) (x := .int .i64 (0)) rfl rfl rfl) ?_))
 exact ⟨rfl, hF.same⟩
set_option maxHeartbeats 1000000 in
set_option maxRecDepth 10000 in
theorem costs_no (S S' : Nat → Prop) (w0 : World) (la : List Str) (fa : List Int) (Aa Ba : Option Addr) (ca ea : Nat) (hLa : Rep S w0 (strsD la) [.slice Aa la.length ca]) (hNa : Rep S w0 (.slice (fa.map intD)) [.slice Ba fa.length ea]) (lb : List Str) (fb : List Int) (Ab Bb : Option Addr) (cb eb : Nat) (hLb : Rep S' w0 (strsD lb) [.slice Ab lb.length cb]) (hNb : Rep S' w0 (.slice (fb.map intD)) [.slice Bb fb.length eb]) (hR : ¬ (RightT la fa ∧ RightT lb fb)) : Calls Tryz.prog 19 #[.agg #[.slice Aa la.length ca, .slice Ba fa.length ea], .agg #[.slice Ab lb.length cb, .slice Bb fb.length eb]] w0 (Ret fun v w' => v = .tuple #[.slice none 0 0, .int .i64 1] ∧ Same [] w0 w') := by
 have hLla := hLa.slice_len
 have hNla := hNa.slice_len
 rw [List.length_map] at hLla hNla
 have hLlb := hLb.slice_len
 have hNlb := hNb.slice_len
 rw [List.length_map] at hLlb hNlb
 refine calls_start Tryz.func19 rfl Tryz.ntmps19 (Nat.le_of_ble_eq_true rfl) (args_2 _ _) ?_
 have hF := FR.start w0 []
 refine c_seq (c_region ?_)
 refine o_box (v := .agg #[.slice (Aa) (la.length) (ca), .slice (Ba) (fa.length) (ea)]) (cs := #[.slice (Aa) (la.length) (ca), .slice (Ba) (fa.length) (ea)]) hF rfl rfl ?_
 clear hF; rintro b1 w hb1 hF -
 refine o_box (v := .agg #[.slice (Ab) (lb.length) (cb), .slice (Bb) (fb.length) (eb)]) (cs := #[.slice (Ab) (lb.length) (cb), .slice (Bb) (fb.length) (eb)]) hF rfl rfl ?_
 clear hF; rintro b2 w hb2 hF -
 refine o_val (x_assign rfl) (o_val (x_assign rfl) (o_nil (e_seq (c_seq (c_region (o_val (v := .agg #[.slice (Aa) (la.length) (ca), .slice (Ba) (fa.length) (ea)]) (x_loadS (l := [.slice (Aa) (la.length) (ca), .slice (Ba) (fa.length) (ea)]) Tryz.isAgg30 Tryz.sizeOf30 rfl rfl (hF.cellsAll 1 rfl)) (o_val (v := .agg #[.slice (Ab) (lb.length) (cb), .slice (Bb) (fb.length) (eb)]) (x_loadS (l := [.slice (Ab) (lb.length) (cb), .slice (Bb) (fb.length) (eb)]) Tryz.isAgg30 Tryz.sizeOf30 rfl rfl (hF.cellsAll 0 rfl)) ?_)))))))
 refine o_call (reckoned_no _ _ _ la fa Aa Ba ca ea (hF.rep hLa) (hF.rep hNa) lb fb Ab Bb cb eb (hF.rep hLb) (hF.rep hNb) hR) (x_call2 en_31 rfl rfl rfl) ?_
 rintro _ w ⟨rfl, hE⟩
 replace hF := hF.ext hE
 clear hE
 refine o_val (x_move rfl) (o_val (x_extract rfl rfl) (o_val (x_extract rfl rfl) (o_val (x_assign rfl) (o_val (x_assign rfl) (o_nil (e_seq (c_seq (c_seq (c_region (o_val (x_move rfl) (o_val (v := .bool true) (x_not (b := false) rfl) (o_nil (e_seq ?_)))))))))))))
 refine c_ift rfl (c_seq (c_region (o_val (x_assign rfl) (o_val (x_assign rfl) (o_nil (e_seq ?_))))))
 refine c_ret (e_ret (post_ret (res_2 (v := .slice (none) (0) (0)) (x := .int .i64 (1)) rfl rfl rfl) ?_))
 exact ⟨rfl, hF.same⟩
set_option maxHeartbeats 1000000 in
set_option maxRecDepth 10000 in
theorem costs_yes (S S' : Nat → Prop) (w0 : World) (la : List Str) (fa : List Int) (Aa Ba : Option Addr) (ca ea : Nat) (hLa : Rep S w0 (strsD la) [.slice Aa la.length ca]) (hNa : Rep S w0 (.slice (fa.map intD)) [.slice Ba fa.length ea]) (lb : List Str) (fb : List Int) (Ab Bb : Option Addr) (cb eb : Nat) (hLb : Rep S' w0 (strsD lb) [.slice Ab lb.length cb]) (hNb : Rep S' w0 (.slice (fb.map intD)) [.slice Bb fb.length eb]) (hRa : RightT la fa) (hRb : RightT lb fb) : Calls Tryz.prog 19 #[.agg #[.slice Aa la.length ca, .slice Ba fa.length ea], .agg #[.slice Ab lb.length cb, .slice Bb fb.length eb]] w0 (Ret fun v w' => ∃ (pb : Nat) (q : Nat → Nat) (P : Nat → Nat → Int), v = .tuple #[.slice (some ⟨pb, 0, none⟩) la.length la.length, .int .i64 0] ∧ Grid2 w' pb la.length lb.length 28 3 q P ∧ (∀ x y, x < la.length → y < lb.length → P x y = ((td (nodesT la fa) (nodesT lb fb) x y : Nat) : Int)) ∧ Same [] w0 w') := by
 have hLla := hLa.slice_len
 have hNla := hNa.slice_len
 rw [List.length_map] at hLla hNla
 have hLlb := hLb.slice_len
 have hNlb := hNb.slice_len
 rw [List.length_map] at hLlb hNlb
 refine calls_start Tryz.func19 rfl Tryz.ntmps19 (Nat.le_of_ble_eq_true rfl) (args_2 _ _) ?_
 have hF := FR.start w0 []
 refine c_seq (c_region ?_)
 refine o_box (v := .agg #[.slice (Aa) (la.length) (ca), .slice (Ba) (fa.length) (ea)]) (cs := #[.slice (Aa) (la.length) (ca), .slice (Ba) (fa.length) (ea)]) hF rfl rfl ?_
 clear hF; rintro b1 w hb1 hF -
 refine o_box (v := .agg #[.slice (Ab) (lb.length) (cb), .slice (Bb) (fb.length) (eb)]) (cs := #[.slice (Ab) (lb.length) (cb), .slice (Bb) (fb.length) (eb)]) hF rfl rfl ?_
 clear hF; rintro b2 w hb2 hF -
 refine o_val (x_assign rfl) (o_val (x_assign rfl) (o_nil (e_seq (c_seq (c_region (o_val (v := .agg #[.slice (Aa) (la.length) (ca), .slice (Ba) (fa.length) (ea)]) (x_loadS (l := [.slice (Aa) (la.length) (ca), .slice (Ba) (fa.length) (ea)]) Tryz.isAgg30 Tryz.sizeOf30 rfl rfl (hF.cellsAll 1 rfl)) (o_val (v := .agg #[.slice (Ab) (lb.length) (cb), .slice (Bb) (fb.length) (eb)]) (x_loadS (l := [.slice (Ab) (lb.length) (cb), .slice (Bb) (fb.length) (eb)]) Tryz.isAgg30 Tryz.sizeOf30 rfl rfl (hF.cellsAll 0 rfl)) ?_)))))))
 refine o_call (reckoned_yes _ _ _ la fa Aa Ba ca ea (hF.rep hLa) (hF.rep hNa) lb fb Ab Bb cb eb (hF.rep hLb) (hF.rep hNb) hRa hRb) (x_call2 en_31 rfl rfl rfl) ?_
 rintro _ w ⟨N0, rb, pb, q, P, rfl, hK, hP, hNw, hqn, hE⟩
 have hqn0 : ∀ i, i < la.length → w0.heap.size ≤ q i := fun i hi => Nat.le_trans hF.same.size (hqn i hi)
 have hqn1 : ∀ i, i < la.length → ∀ z ∈ [b2, b1], q i ≠ z := fun i hi z hz e => by have := hqn i hi; simp only [List.mem_cons, List.not_mem_nil, or_false] at hz; rcases hz with rfl | rfl; (have := hF.lt (i := 0) rfl; omega); (have := hF.lt (i := 1) rfl; omega)
 replace hF := hF.ext hE
 clear hE hqn
 refine o_val (x_move rfl) (o_val (x_extract rfl rfl) (o_val (x_extract rfl rfl) (o_val (x_assign rfl) (o_val (x_assign rfl) (o_nil (e_seq (c_seq (c_seq (c_region (o_val (x_move rfl) (o_val (v := .bool false) (x_not (b := true) rfl) (o_nil (e_seq ?_)))))))))))))
 refine c_iff rfl (c_skip (e_seq (c_seq (c_region (o_val (x_move rfl) (o_val (v := .pointer (some ⟨rb, 0, none⟩)) (x_nilCheck rfl) (o_val (v := .pointer (some ⟨rb, 4, none⟩)) (x_fieldAddrO fa_69_2 rfl) (o_val (v := .slice (some ⟨pb, 0, none⟩) (la.length) (la.length)) (x_load Tryz.isAgg44 rfl hK.c4) (o_val (x_assign rfl) (o_val (x_assign rfl) (o_nil (e_seq ?_))))))))))))
 refine c_ret (e_ret (post_ret (res_2 (v := .slice (some ⟨pb, 0, none⟩) (la.length) (la.length)) (x := .int .i64 (0)) rfl rfl rfl) ?_))
 exact ⟨pb, q, P, rfl, hK.grid, hP, hF.same⟩
end Go.Scarf
