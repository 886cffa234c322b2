/- A part of the proof. -/
import Derived.Test.YtepbomjpbdbejaaGreatDoorE7
import Derived.Test.YtepbomjpbdbejaaGreatDoorP1
import Derived.Sort.Walk0
import Derived.Laws.Slices
set_option linter.all false
set_option maxHeartbeats 8000000
set_option maxRecDepth 10000
namespace Go.Scarf
open Go.RowKit Go.Proofs
end Go.Scarf
namespace Go.Scarf
open Go.RowKit Go.Proofs
end Go.Scarf
namespace Go.Scarf
open Go.RowKit Go.Proofs Go.Maps
section
variable {P : Program} {w0 w : World} {Ds ids : List Nat}
theorem CM {t e : TypeId} (h : P.underlying t = some (.slice e)) : P.elem t = e := by unfold Program.elem; rw [h]
end
end Go.Scarf
