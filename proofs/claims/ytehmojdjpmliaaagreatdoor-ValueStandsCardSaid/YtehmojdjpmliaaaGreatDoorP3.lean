/- A part of the proof. -/
import Derived.Test.YtehmojdjpmliaaaGreatDoorBd
import Derived.Test.YtehmojdjpmliaaaGreatDoorP1
set_option linter.all false
namespace Go.Scarf
mutual
def maxL : Tree → Nat | .node _ t ks xs => max t.length (max (maxKs ks) (maxLs xs))
def maxLs : List Tree → Nat | [] => 0 | x :: xs => max (maxL x) (maxLs xs)
def maxKs : List Str → Nat | [] => 0 | k :: ks => max k.length (maxKs ks)
end
theorem maxKs_mem : ∀ {ks : List Str} {k : Str}, k ∈ ks → k.length ≤ maxKs ks
  | y :: ys, k, h => by
    rw [maxKs]
    rcases List.mem_cons.1 h with rfl | h
    · omega
    · have := maxKs_mem h; omega
theorem maxLs_mem : ∀ {xs : List Tree} {x : Tree}, x ∈ xs → maxL x ≤ maxLs xs
  | y :: ys, k, h => by
    rw [maxLs]
    rcases List.mem_cons.1 h with rfl | h
    · omega
    · have := maxLs_mem h; omega
theorem maxKs_le {n : Nat} : ∀ {ks : List Str}, (∀ k ∈ ks, k.length ≤ n) → maxKs ks ≤ n
  | [], _ => by rw [maxKs]; omega
  | k :: ks, h => by
    rw [maxKs]
    have h1 := h k (by simp)
    have h2 := maxKs_le (fun y hy => h y (by simp [hy]) : ∀ k ∈ ks, k.length ≤ n)
    omega
theorem short_max (x : Tree) : shortT x = true → maxL x ≤ 2048 := Tree.ind (Q := fun x => shortT x = true → maxL x ≤ 2048) (fun k t ks xs ih h => by
  rw [shortT, Bool.and_eq_true, Bool.and_eq_true, decide_eq_true_eq, List.all_eq_true] at h
  rw [maxL]
  have h1 : maxKs ks ≤ 2048 := maxKs_le fun k hk => by have := h.1.2 k hk; simp only [decide_eq_true_eq] at this; omega
  have key : ∀ ys : List Tree, (∀ y ∈ ys, y ∈ xs) → shortTs ys = true → maxLs ys ≤ 2048 := by
    intro ys
    induction ys with
    | nil => intro _ _; rw [maxLs]; omega
    | cons y ys ihy =>
      intro hm hs
      rw [shortTs, Bool.and_eq_true] at hs
      rw [maxLs]
      have a := ih y (hm y (by simp)) hs.1
      have b := ihy (fun z hz => hm z (by simp [hz])) hs.2
      omega
  have h2 := key xs (fun _ h => h) h.2
  omega) x
end Go.Scarf
namespace Go.Scarf
theorem allTs_all (q : Tree → Bool) : ∀ xs : List Tree, allTs q xs = xs.all (allT q)
  | [] => rfl
  | x :: xs => by rw [allTs, allTs_all q xs]; rfl
end Go.Scarf
namespace Go.Scarf
open Go.RowKit Go.Proofs
def pretOk (x : Tree) (ind d : Int) : Prop := rightB x = true ∧ (0 ≤ ind ∧ ind ≤ 8) ∧ (0 ≤ d ∧ d ≤ 32)
instance (x : Tree) (ind d : Int) : Decidable (pretOk x ind d) := by unfold pretOk; infer_instance
end Go.Scarf
