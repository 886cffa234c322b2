/- A part of the proof. -/
import Derived.Test.YtehmojdjpmliaaaGreatDoorE7
import Derived.Test.YtehmojdjpmliaaaGreatDoorP1
set_option linter.all false
namespace Go.Scarf
open Go.RowKit Go.Proofs
theorem look_at : ∀ {ks : List Str} {xs : List Tree} {key : Str}, key ∈ ks → ∀ h : ks.idxOf key < xs.length, lookT ks xs key = some (xs[ks.idxOf key]'h)
  | [], _, _, h, _ => absurd h (by simp)
  | k :: ks, [], key, _, h2 => absurd h2 (by simp)
  | k :: ks, x :: xs, key, h, h2 => by
    rw [lookT]
    by_cases he : k = key
    · have h0 : (k :: ks).idxOf key = 0 := by rw [List.idxOf_cons, he]; simp
      rw [if_pos he]
      simp only [h0, List.getElem_cons_zero]
    · have hb : (k == key) = false := by simpa using he
      have h0 : (k :: ks).idxOf key = ks.idxOf key + 1 := by rw [List.idxOf_cons, hb]; simp
      have hk : key ∈ ks := by
        rcases List.mem_cons.1 h with h | h
        · exact absurd h.symm he
        · exact h
      rw [if_neg he, look_at hk (by rw [h0] at h2; simpa using h2)]
      simp only [h0, List.getElem_cons_succ]
theorem at_look {ks : List Str} {xs : List Tree} {key : Str} {q : Nat} (hl : ks.length = xs.length) (h : atZ ks key = (q : Int)) : ∃ hq : q < xs.length, lookT ks xs key = some xs[q] := by
  unfold atZ at h
  by_cases hm : key ∈ ks
  · rw [if_pos hm] at h
    have e : ks.idxOf key = q := by omega
    have hlt : ks.idxOf key < xs.length := by rw [← hl]; exact List.idxOf_lt_length_iff.2 hm
    have := look_at hm hlt
    subst e
    exact ⟨hlt, this⟩
  · rw [if_neg hm] at h; omega
end Go.Scarf
