/- A part of the proof. -/
import Derived.Test.YtepbomjpbdbejaaGreatDoorW4
import Derived.Test.YtepbomjpbdbejaaGreatDoorW19
import Derived.Lib.DecodeN
import Derived.Test.YtepbomjpbdbejaaGreatDoorW2
import Derived.Lib.ItoaMem
set_option linter.all false
set_option maxHeartbeats 8000000
set_option maxRecDepth 10000
namespace Go.Scarf
open Go.RowKit Go.Proofs
def V0 (n : Nat) (b : Int) : Int := if n = 2 then b - 192 else if n = 3 then b - 224 else if n = 4 then b - 240 else b
end Go.Scarf
namespace Go.Scarf
open Go.RowKit Go.Proofs
end Go.Scarf
namespace Go.Scarf
open Go.RowKit Go.Proofs
end Go.Scarf
