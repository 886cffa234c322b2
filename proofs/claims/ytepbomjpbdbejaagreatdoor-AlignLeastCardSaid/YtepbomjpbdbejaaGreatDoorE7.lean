/- A part of the proof. -/
import Derived.Test.YtepbomjpbdbejaaGreatDoorE4
import Derived.Test.YtepbomjpbdbejaaGreatDoorW19
import Derived.Test.YtepbomjpbdbejaaGreatDoorP3
set_option linter.all false
set_option maxHeartbeats 8000000
set_option maxRecDepth 10000
namespace Go.Scarf
open Go.RowKit Go.Proofs
end Go.Scarf
