/- A part of the proof. -/
import Derived.Test.YtepbomjpbdbejaaGreatDoorW4
import Derived.Test.YtepbomjpbdbejaaGreatDoorW19
import Derived.Lib.DecodeN
import Derived.Test.YtepbomjpbdbejaaGreatDoorW2
import Derived.Lib.ItoaMem
set_option linter.all false
set_option maxHeartbeats 8000000
set_option maxRecDepth 10000
namespace Go.Scarf
open Go.RowKit Go.Proofs
end Go.Scarf
namespace Go.Scarf
open Go.RowKit Go.Proofs
end Go.Scarf
namespace Go.Scarf
open Go.RowKit Go.Proofs
end Go.Scarf
