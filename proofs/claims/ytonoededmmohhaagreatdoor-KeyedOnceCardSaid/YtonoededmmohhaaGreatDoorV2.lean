/- A part of the proof. -/
import Derived.Test.YtonoededmmohhaaGreatDoorV1
set_option linter.all false
namespace Go.Scarf
open Go.RowKit Go.Proofs
theorem Rep.all {S : Nat → Prop} {w : World} {d : D} {cs : List Value} (h : Rep S w d cs) : Rep (fun _ => True) w d cs := h.weaken fun _ _ _ => trivial
theorem RepL.single {S : Nat → Prop} {w : World} {d : D} {cs : List Value} (h : Rep S w d cs) : RepL S w [d] cs := by
  have := RepL.cons_mk h RepL.nil_mk
  rw [List.append_nil] at this
  exact this
end Go.Scarf
