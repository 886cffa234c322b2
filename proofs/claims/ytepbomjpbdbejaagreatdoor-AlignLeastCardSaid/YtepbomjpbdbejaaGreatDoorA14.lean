/- A part of the proof. -/
import Derived.Test.YtepbomjpbdbejaaGreatDoorA13
set_option linter.all false
set_option maxHeartbeats 8000000
set_option maxRecDepth 10000
namespace Go.Scarf
open Go.RowKit Go.Proofs
end Go.Scarf
