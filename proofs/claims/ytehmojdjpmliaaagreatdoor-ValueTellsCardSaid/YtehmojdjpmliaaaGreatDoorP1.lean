/- A part of the proof. -/
import Derived.Test.YtehmojdjpmliaaaGreatDoorW19
set_option linter.all false
namespace Go.Scarf
theorem right_digits {x : Num} (h : rightN x = true) (hd : x.digits = []) : x = Num.zero := by
  unfold rightN at h
  simp only [Bool.or_eq_true, Bool.and_eq_true, decide_eq_true_eq] at h
  rcases h with h | h
  · exact h
  · exact absurd hd (digs_ne h.1.1.1.1.1)
theorem lookT_key {ks : List Str} {xs : List Tree} {key : Str} {y : Tree} (h : lookT ks xs key = some y) : key ∈ ks := by
  induction ks generalizing xs with
  | nil => cases xs <;> cases h
  | cons k ks ih =>
    cases xs with
    | nil => cases h
    | cons x xs =>
      rw [lookT] at h
      by_cases e : k = key
      · simp [e]
      · rw [if_neg e] at h; simp [ih h]
end Go.Scarf
namespace Go.Scarf
end Go.Scarf
