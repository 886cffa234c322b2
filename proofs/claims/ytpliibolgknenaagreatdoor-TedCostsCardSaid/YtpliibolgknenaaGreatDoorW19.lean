/- A part of the proof. -/
import Derived.Test.YtpliibolgknenaaGreatDoorW16
set_option linter.all false
namespace Go.Scarf
open Go.RowKit Go.Proofs
mutual
def eqT : Tree → Tree → Bool
  | .node k t ks xs, .node k' t' ks' ys => decide (k = k') && decide (t = t') && decide (ks = ks') && eqTs xs ys
def eqTs : List Tree → List Tree → Bool
  | [], [] => true
  | x :: xs, y :: ys => eqT x y && eqTs xs ys
  | _, _ => false
end
theorem eqTs_of : ∀ {xs ys : List Tree}, (∀ x ∈ xs, ∀ y, eqT x y = true ↔ x = y) → (eqTs xs ys = true ↔ xs = ys)
  | [], [], _ => by simp [eqTs]
  | [], _ :: _, _ => by simp [eqTs]
  | _ :: _, [], _ => by simp [eqTs]
  | x :: xs, y :: ys, h => by
    rw [eqTs, Bool.and_eq_true, h x (by simp) y, eqTs_of (fun z hz => h z (by simp [hz]))]
    simp
theorem eqT_iff (x : Tree) : ∀ y, eqT x y = true ↔ x = y := Tree.ind (Q := fun x => ∀ y, eqT x y = true ↔ x = y) (fun k t ks xs ih y => by
  obtain ⟨k', t', ks', ys⟩ := y
  rw [eqT, Bool.and_eq_true, Bool.and_eq_true, Bool.and_eq_true, eqTs_of ih]
  simp [and_assoc]) x
instance : DecidableEq Tree := fun x y => if h : eqT x y = true then .isTrue ((eqT_iff x y).1 h) else .isFalse (fun e => h ((eqT_iff x y).2 e))
set_option maxHeartbeats 1000000 in
set_option maxRecDepth 10000 in
theorem row_c (A : Option Addr) (n c : Nat) (w0 : World) : Calls Tryz.prog 17 #[.slice A n c] w0 (Ret fun v w' => v = .agg #[.int .i64 5, .string (bs []), .slice none 0 0, .slice A n c] ∧ Same [] w0 w') := by
 refine calls_start Tryz.func17 rfl Tryz.ntmps17 (Nat.le_of_ble_eq_true rfl) (args_1 _) ?_
 have hF := FR.start w0 []
 refine c_seq (c_region ?_)
 refine o_alloc (cs := #[.int .i64 (0), .string (bs ([])), .slice (none) (0) (0), .slice (none) (0) (0)]) hF Tryz.zeroValue25 rfl ?_
 clear hF; rintro b1 w hb1 hF -
 refine o_nil (e_seq (c_seq (c_region (o_val (x_move rfl) ?_))))
 refine o_val (w' := w) (v := .agg #[.int .i64 (5), .string (bs ([])), .slice (none) (0) (0), .slice (A) (n) (c)]) (by kernel_rfl) ?_
 refine o_store 0 (l := [.int .i64 (5), .string (bs ([])), .slice (none) (0) (0), .slice (A) (n) (c)]) (cs' := #[.int .i64 (5), .string (bs ([])), .slice (none) (0) (0), .slice (A) (n) (c)]) hF Tryz.sizeOf25 rfl (v := .agg #[.int .i64 (5), .string (bs ([])), .slice (none) (0) (0), .slice (A) (n) (c)]) rfl rfl (by simp [one]) rfl (Nat.le_of_ble_eq_true rfl) rfl ?_
 clear hF; rintro w hF -
 replace hF : FR w0 [] [(b1, .cells #[.int .i64 (5), .string (bs ([])), .slice (none) (0) (0), .slice (A) (n) (c)] 25)] w := hF
 refine o_nil (e_seq ?_)
 refine c_ret (e_ret (post_ret (res_c rfl (l := [.int .i64 (5), .string (bs ([])), .slice (none) (0) (0), .slice (A) (n) (c)]) rfl Tryz.isAgg25 Tryz.sizeOf25 rfl (hF.cellsAll 0 rfl)) ?_))
 exact ⟨rfl, hF.same⟩
set_option maxHeartbeats 1000000 in
set_option maxRecDepth 10000 in
theorem map_c (A : Option Addr) (n c : Nat) (B : Option Addr) (m d : Nat) (w0 : World) : Calls Tryz.prog 23 #[.slice A n c, .slice B m d] w0 (Ret fun v w' => v = .agg #[.int .i64 6, .string (bs []), .slice A n c, .slice B m d] ∧ Same [] w0 w') := by
 refine calls_start Tryz.func23 rfl Tryz.ntmps23 (Nat.le_of_ble_eq_true rfl) (args_2 _ _) ?_
 have hF := FR.start w0 []
 refine c_seq (c_region ?_)
 refine o_alloc (cs := #[.int .i64 (0), .string (bs ([])), .slice (none) (0) (0), .slice (none) (0) (0)]) hF Tryz.zeroValue25 rfl ?_
 clear hF; rintro b1 w hb1 hF -
 refine o_nil (e_seq (c_seq (c_region (o_val (x_move rfl) (o_val (x_move rfl) ?_)))))
 refine o_val (w' := w) (v := .agg #[.int .i64 (6), .string (bs ([])), .slice (A) (n) (c), .slice (B) (m) (d)]) (by kernel_rfl) ?_
 refine o_store 0 (l := [.int .i64 (6), .string (bs ([])), .slice (A) (n) (c), .slice (B) (m) (d)]) (cs' := #[.int .i64 (6), .string (bs ([])), .slice (A) (n) (c), .slice (B) (m) (d)]) hF Tryz.sizeOf25 rfl (v := .agg #[.int .i64 (6), .string (bs ([])), .slice (A) (n) (c), .slice (B) (m) (d)]) rfl rfl (by simp [one]) rfl (Nat.le_of_ble_eq_true rfl) rfl ?_
 clear hF; rintro w hF -
 replace hF : FR w0 [] [(b1, .cells #[.int .i64 (6), .string (bs ([])), .slice (A) (n) (c), .slice (B) (m) (d)] 25)] w := hF
 refine o_nil (e_seq ?_)
 refine c_ret (e_ret (post_ret (res_c rfl (l := [.int .i64 (6), .string (bs ([])), .slice (A) (n) (c), .slice (B) (m) (d)]) rfl Tryz.isAgg25 Tryz.sizeOf25 rfl (hF.cellsAll 0 rfl)) ?_))
 exact ⟨rfl, hF.same⟩
end Go.Scarf
