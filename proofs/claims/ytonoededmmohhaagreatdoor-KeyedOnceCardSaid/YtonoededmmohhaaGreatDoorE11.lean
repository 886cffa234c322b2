/- A part of the proof. -/
import Derived.Test.YtonoededmmohhaaGreatDoorS1
set_option linter.all false
namespace Go.Scarf
open Go.RowKit Go.Proofs
theorem lits_of {S : Nat → Prop} {wx : World} : ∀ {q : List Str}, (∀ s ∈ q, s.length ≤ 9223372036854775807) → RepL S wx (q.map strD) (q.map fun s => Value.string (bs s))
  | [], _ => RepL.nil_mk
  | s :: q, h => RepL.cons_mk (Rep.lit_mk (v := .string (bs s)) (h s (by simp))) (lits_of fun x hx => h x (by simp [hx]))
end Go.Scarf
