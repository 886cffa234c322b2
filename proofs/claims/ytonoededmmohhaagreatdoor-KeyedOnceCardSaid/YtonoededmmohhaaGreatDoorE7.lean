/- A part of the proof. -/
import Derived.Test.YtonoededmmohhaaGreatDoorE4
import Derived.Test.YtonoededmmohhaaGreatDoorW19
import Derived.Test.YtonoededmmohhaaGreatDoorP3
set_option linter.all false
namespace Go.Scarf
open Go.RowKit Go.Proofs
def atZ (ks : List Str) (key : Str) : Int := if key ∈ ks then ((ks.idxOf key : Nat) : Int) else -1
theorem idx_at : ∀ {ks : List Str} {key : Str} {j : Nat} (h : j < ks.length), (∀ x ∈ ks.take j, x ≠ key) → ks[j] = key → ks.idxOf key = j
  | k :: ks, key, 0, _, _, he => by
    have he' : k = key := he
    rw [List.idxOf_cons, he']; simp
  | k :: ks, key, j + 1, h, hn, he => by
    have h0 : k ≠ key := hn k (by simp)
    rw [List.idxOf_cons]
    have hb : (k == key) = false := by simpa using h0
    rw [hb]
    simp only [cond_false]
    rw [idx_at (ks := ks) (j := j) (by simpa using h) (fun x hx => hn x (by simp [hx])) (by simpa using he)]
theorem at_found {ks : List Str} {key : Str} {j : Nat} (h : j < ks.length) (hn : ∀ x ∈ ks.take j, x ≠ key) (he : ks[j] = key) : atZ ks key = (j : Int) := by
  rw [atZ, if_pos (by rw [← he]; exact List.getElem_mem h), idx_at h hn he]
theorem at_none {ks : List Str} {key : Str} (hn : ∀ x ∈ ks, x ≠ key) : atZ ks key = -1 := by
  rw [atZ, if_neg (fun h => hn key h rfl)]
end Go.Scarf
