/- A part of the proof. -/
import Derived.Test.YtpliibolgknenaaGreatDoorBd
import Derived.Test.YtpliibolgknenaaGreatDoorP1
set_option linter.all false
namespace Go.Scarf
theorem okQs_of : ∀ {xs : List Tree}, (∀ x ∈ xs, okQ x) → okQs xs
  | [], _ => by rw [okQs]; trivial
  | x :: xs, h => by rw [okQs]; exact ⟨h x (by simp), okQs_of (fun y hy => h y (by simp [hy]))⟩
mutual
def maxL : Tree → Nat | .node _ t ks xs => max t.length (max (maxKs ks) (maxLs xs))
def maxLs : List Tree → Nat | [] => 0 | x :: xs => max (maxL x) (maxLs xs)
def maxKs : List Str → Nat | [] => 0 | k :: ks => max k.length (maxKs ks)
end
theorem maxKs_mem : ∀ {ks : List Str} {k : Str}, k ∈ ks → k.length ≤ maxKs ks
  | y :: ys, k, h => by
    rw [maxKs]
    rcases List.mem_cons.1 h with rfl | h
    · omega
    · have := maxKs_mem h; omega
theorem maxLs_mem : ∀ {xs : List Tree} {x : Tree}, x ∈ xs → maxL x ≤ maxLs xs
  | y :: ys, k, h => by
    rw [maxLs]
    rcases List.mem_cons.1 h with rfl | h
    · omega
    · have := maxLs_mem h; omega
theorem maxKs_le {n : Nat} : ∀ {ks : List Str}, (∀ k ∈ ks, k.length ≤ n) → maxKs ks ≤ n
  | [], _ => by rw [maxKs]; omega
  | k :: ks, h => by
    rw [maxKs]
    have h1 := h k (by simp)
    have h2 := maxKs_le (fun y hy => h y (by simp [hy]) : ∀ k ∈ ks, k.length ≤ n)
    omega
theorem maxLs_le {n : Nat} : ∀ {xs : List Tree}, (∀ x ∈ xs, maxL x ≤ n) → maxLs xs ≤ n
  | [], _ => by rw [maxLs]; omega
  | k :: ks, h => by
    rw [maxLs]
    have h1 := h k (by simp)
    have h2 := maxLs_le (fun y hy => h y (by simp [hy]) : ∀ x ∈ ks, maxL x ≤ n)
    omega
theorem okQ_max (x : Tree) : maxL x ≤ 17592186044416 → okQ x := Tree.ind (Q := fun x => maxL x ≤ 17592186044416 → okQ x) (fun k t ks xs ih h => by
  rw [maxL] at h
  rw [okQ]
  exact ⟨by omega, fun k hk => by have := maxKs_mem hk; omega, okQs_of fun y hy => ih y hy (by have := maxLs_mem hy; omega)⟩) x
theorem okT_max (x : Tree) : maxL x ≤ 17592186044416 → okT x := Tree.ind (Q := fun x => maxL x ≤ 17592186044416 → okT x) (fun k t ks xs ih h => by
  rw [maxL] at h
  rw [okT]
  exact ⟨by omega, fun k hk => by have := maxKs_mem hk; omega, okTs_of fun y hy => ih y hy (by have := maxLs_mem hy; omega)⟩) x
theorem max_sort (x : Tree) : maxL (sortT x) ≤ maxL x := Tree.ind (Q := fun x => maxL (sortT x) ≤ maxL x) (fun k t ks xs ih => by
  have hs : ∀ y ∈ sortTs xs, maxL y ≤ maxLs xs := by
    intro y hy
    rw [sortTs_eq] at hy
    obtain ⟨z, hz, rfl⟩ := List.mem_map.1 hy
    exact Nat.le_trans (ih z hz) (maxLs_mem hz)
  rw [sortT]
  split
  · rw [maxL, maxL]
    have h1 : maxKs (sortS ks) ≤ maxKs ks := maxKs_le fun k hk => maxKs_mem (sortS_mem.1 hk)
    have h2 : maxLs ((sortS ks).map fun key => (lookT ks (sortTs xs) key).getD (.node 0 [] [] [])) ≤ maxLs xs := maxLs_le fun y hy => by
      obtain ⟨key, _, rfl⟩ := List.mem_map.1 hy
      cases hl : lookT ks (sortTs xs) key with
      | none => simp [maxL, maxKs, maxLs]
      | some z => exact hs z (lookT_mem hl)
    omega
  · rw [maxL, maxL]
    have h2 := maxLs_le hs
    have h3 : maxKs [] = 0 := by rw [maxKs]
    omega) x
theorem joinS_length (m : Bool) (ind d : Nat) (D : Nat) (hD : d + 1 ≤ D) : ∀ (ps : List Str) (b : Bool), (joinS m ind d b ps).length ≤ (ps.map fun p => p.length + (2 + ind * D)).sum
  | [], b => by rw [joinS]; simp
  | p :: ps, b => by
    have h1 := joinS_length m ind d D hD ps false
    have h2 := lineS_length m ind (d + 1)
    have h3 : ind * (d + 1) ≤ ind * D := Nat.mul_le_mul_left _ hD
    have h4 : (if b = true then ([] : Str) else [44]).length ≤ 1 := by split <;> simp
    rw [joinS, List.map_cons, List.sum_cons]
    simp only [List.length_append]
    omega
theorem val_bound (m : Bool) (ind L D : Nat) (x : Tree) : ∀ d, maxL x ≤ L → d + depthT x ≤ D → (valS m ind x d).length + (6 * L + 6 + ind * D) ≤ sizeT x * (12 * L + 40 + 2 * (ind * D)) :=
  Tree.ind (Q := fun x => ∀ d, maxL x ≤ L → d + depthT x ≤ D → (valS m ind x d).length + (6 * L + 6 + ind * D) ≤ sizeT x * (12 * L + 40 + 2 * (ind * D))) (fun k t ks xs ih d hL hd => by
  rw [maxL] at hL
  rw [depthT] at hd
  have hq := qS_length t
  have hl := lineS_length m ind d
  have hid : ind * d ≤ ind * D := Nat.mul_le_mul_left _ (by omega)
  have key1 : ∀ ys : List Tree, (∀ y ∈ ys, y ∈ xs) → ((valsS m ind ys (d + 1)).map fun p => p.length + (2 + ind * D)).sum ≤ sizeTs ys * (12 * L + 40 + 2 * (ind * D)) := by
    intro ys
    induction ys with
    | nil => intro _; simp [valsS]
    | cons y ys ihy =>
      intro hm
      have h1 := ih y (hm y (by simp)) (d + 1) (by have := maxLs_mem (hm y (by simp)); omega) (by have := depthTs_mem (hm y (by simp)); omega)
      have h2 := ihy (fun z hz => hm z (by simp [hz]))
      rw [valsS, List.map_cons, List.sum_cons, sizeTs, Nat.add_mul]
      omega
  have key2 : ∀ (ys : List Tree) (js : List Str), (∀ y ∈ ys, y ∈ xs) → (∀ k ∈ js, k.length ≤ L) → ((memsS m ind ys js (d + 1)).map fun p => p.length + (2 + ind * D)).sum ≤ sizeTs ys * (12 * L + 40 + 2 * (ind * D)) := by
    intro ys
    induction ys with
    | nil => intro _ _ _; simp [memsS]
    | cons y ys ihy =>
      intro js hm hj
      have h1 := ih y (hm y (by simp)) (d + 1) (by have := maxLs_mem (hm y (by simp)); omega) (by have := depthTs_mem (hm y (by simp)); omega)
      have h2 := ihy js.tail (fun z hz => hm z (by simp [hz])) (fun k hk => hj k (List.mem_of_mem_tail hk))
      have h3 : (js.headD []).length ≤ L := by
        cases js with
        | nil => simp
        | cons a b => exact hj a (by simp)
      have h4 := qS_length (js.headD [])
      have h5 : (if m = true then ([32] : Str) else []).length ≤ 1 := by split <;> simp
      rw [memsS, List.map_cons, List.sum_cons, sizeTs, Nat.add_mul]
      simp only [List.length_append, List.length_cons, List.length_nil]
      omega
  have fin : ∀ (o c : UInt8) (ps : List Str) (N : Nat), (xs = [] → ps = []) → (ps.map fun p => p.length + (2 + ind * D)).sum ≤ N → (itemsS m ind d o c ps).length + (6 * L + 6 + ind * D) ≤ 1 * (12 * L + 40 + 2 * (ind * D)) + N := by
    intro o c ps N he hN
    have h5 : (if ps = [] then ([] : Str) else lineS m ind d).length ≤ 1 + ind * D := by
      split
      · simp
      · omega
    have h6 : (joinS m ind d true ps).length ≤ N := by
      by_cases hp : ps = []
      · subst hp; rw [joinS]; simp
      · have hx : xs ≠ [] := fun h => hp (he h)
        have h7 : 1 ≤ depthTs xs := by
          cases xs with
          | nil => exact absurd rfl hx
          | cons a b => rw [depthTs]; have : 1 ≤ depthT a := by (obtain ⟨_, _, _, _⟩ := a; rw [depthT]; omega)
                        omega
        exact Nat.le_trans (joinS_length m ind d D (by omega) ps true) hN
    rw [itemsS]
    simp only [List.length_append, List.length_cons, List.length_nil]
    omega
  rw [valS, sizeT, Nat.add_mul]
  split
  · simp only [List.length_cons, List.length_nil]; omega
  split
  · omega
  split
  · exact fin _ _ _ _ (fun h => by rw [h, valsS]) (key1 xs (fun _ h => h))
  split
  · exact fin _ _ _ _ (fun h => by rw [h, memsS]) (key2 xs ks (fun _ h => h) (fun k hk => by have := maxKs_mem hk; omega))
  · omega) x
end Go.Scarf
namespace Go.Scarf
def compS (x : Tree) : Str := if rightB x = true then valS false 0 x 0 else []
def compE (x : Tree) : Int := if rightB x = true then 0 else 1
theorem allTs_all (q : Tree → Bool) : ∀ xs : List Tree, allTs q xs = xs.all (allT q)
  | [] => rfl
  | x :: xs => by rw [allTs, allTs_all q xs]; rfl
def no7 (x : Tree) : Bool := decide (x.kind ≠ 7)
theorem allT_and (p q : Tree → Bool) (x : Tree) : allT (fun x => p x && q x) x = (allT p x && allT q x) := Tree.ind (Q := fun x => allT (fun x => p x && q x) x = (allT p x && allT q x)) (fun k t ks xs ih => by
  rw [allT, allT, allT, allTs_all, allTs_all, allTs_all]
  have h : xs.all (allT fun x => p x && q x) = (xs.all (allT p) && xs.all (allT q)) := by
    rw [Bool.eq_iff_iff, Bool.and_eq_true, List.all_eq_true, List.all_eq_true, List.all_eq_true]
    refine ⟨fun g => ⟨fun y hy => ?_, fun y hy => ?_⟩, fun g y hy => ?_⟩
    · have := g y hy; rw [ih y hy, Bool.and_eq_true] at this; exact this.1
    · have := g y hy; rw [ih y hy, Bool.and_eq_true] at this; exact this.2
    · rw [ih y hy, Bool.and_eq_true]; exact ⟨g.1 y hy, g.2 y hy⟩
  rw [h]
  cases p (.node k t ks xs) <;> cases q (.node k t ks xs) <;> simp) x
theorem right_eq (x : Tree) : rightB x = (openB x && allT no7 x) := by
  have h : allT rnodeB x = (allT no7 x && allT nodeB x) := allT_and no7 nodeB x
  rw [rightB, openB, h]
  cases sizedB x <;> cases allT no7 x <;> simp
theorem right_open {x : Tree} (h : rightB x = true) : openB x = true := by
  rw [right_eq, Bool.and_eq_true] at h; exact h.1
theorem size_sorted (x : Tree) (h : sizeT x ≤ 1000000000) : sizeT (sortedV x) ≤ 1000000000 := by
  by_cases ho : openB x = true
  · rw [sorted_open ho, (sort_size x (open_all ho)).1]; exact h
  · rw [sortedV, if_neg ho]; decide
theorem maxL_sorted (x : Tree) : maxL (sortedV x) ≤ maxL x := by
  by_cases ho : openB x = true
  · rw [sorted_open ho]; exact max_sort x
  · rw [sortedV, if_neg ho]
    have : maxL zeroT = 0 := by decide
    omega
end Go.Scarf
namespace Go.Scarf
open Go.RowKit Go.Proofs
def pretOk (x : Tree) (ind d : Int) : Prop := rightB x = true ∧ (0 ≤ ind ∧ ind ≤ 8) ∧ (0 ≤ d ∧ d ≤ 32)
instance (x : Tree) (ind d : Int) : Decidable (pretOk x ind d) := by unfold pretOk; infer_instance
theorem right_lim {x : Tree} (h : rightB x = true) (hm : maxL x ≤ 1073741824) (m : Bool) (ind d : Nat) (hi : ind ≤ 8) (hd : d ≤ 32) : (valS m ind x d).length ≤ 140737488355328 := by
  have h1 := right_depth h
  have h2 := val_bound m ind (maxL x) 64 x d (Nat.le_refl _) (by omega)
  have h3 : sizeT x ≤ 4096 := open_size (right_open h)
  have h4 : ind * 64 ≤ 8 * 64 := Nat.mul_le_mul_right _ hi
  have h5 : sizeT x * (12 * maxL x + 40 + 2 * (ind * 64)) ≤ 4096 * (12 * 1073741824 + 40 + 2 * 512) := Nat.mul_le_mul h3 (by omega)
  omega
theorem comp_c (x : Tree) (S : Nat → Prop) (w0 : World) (cs : List Value) (rx : Rep S w0 (treeD x) cs) (hG : Gl w0) (hsz : sizeT x ≤ 1000000000) (hm : maxL x ≤ 1073741824) : Calls Tryz.prog 69 #[.agg cs.toArray] w0 (Ret fun v w' => v = .tuple #[.string (bs (compS x)), .int .i64 (compE x)] ∧ Same [] w0 w') := by
  refine ret_mono (compact_c x S w0 cs rx hG (okT_max x (by omega)) (okQ_max x (by omega)) hsz (fun h => right_lim h hm _ _ _ (by omega) (by omega))) fun v w' ⟨h1, h2⟩ => ⟨?_, h2⟩
  rw [h1, compS, compE]
  split <;> rfl
end Go.Scarf
