/- A part of the proof. -/
import Derived.Test.YtpliibolgknenaaGreatDoorE10
import Derived.Sort.Walk0
import Derived.Laws.Slices
set_option linter.all false
namespace Go.Scarf
open Go.RowKit Go.Proofs Go.Maps
section
variable {P : Program} {w0 w : World} {Ds ids : List Nat}
theorem elem_of {t e : TypeId} (h : P.underlying t = some (.slice e)) : P.elem t = e := by unfold Program.elem; rw [h]
end
end Go.Scarf
