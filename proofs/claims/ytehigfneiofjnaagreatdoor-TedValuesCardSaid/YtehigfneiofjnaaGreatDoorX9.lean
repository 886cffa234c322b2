/- A part of the proof. -/
import Derived.Test.YtehigfneiofjnaaGreatDoorZ14
set_option linter.all false
set_option maxHeartbeats 8000000
set_option maxRecDepth 10000
namespace Go.Scarf
open Go.RowKit Go.Proofs
theorem Fm {b : Bool} (h : (!b) = false) : b = true := by simpa using h
end Go.Scarf
