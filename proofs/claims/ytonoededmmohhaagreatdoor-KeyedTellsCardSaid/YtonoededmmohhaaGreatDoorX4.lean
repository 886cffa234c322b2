/- A part of the proof. -/
import Derived.Test.YtonoededmmohhaaGreatDoorX2
set_option linter.all false
namespace Go.Scarf
open Go.RowKit Go.Proofs
theorem right_kid {k : Int} {t : Str} {ks : List Str} {xs : List Tree} (h : rightB (.node k t ks xs) = true) {x : Tree} (hx : x ∈ xs) : rightB x = true := by
  unfold rightB sizedB at h ⊢
  simp only [Bool.and_eq_true, decide_eq_true_eq] at h ⊢
  have h1 := sizeTs_mem hx
  have h2 := depthTs_mem hx
  rw [sizeT, depthT] at h
  exact ⟨⟨by omega, by omega⟩, (allT_node h.2).2 x hx⟩
end Go.Scarf
