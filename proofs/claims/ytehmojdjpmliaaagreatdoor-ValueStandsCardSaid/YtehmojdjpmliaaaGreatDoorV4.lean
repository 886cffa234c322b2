/- A part of the proof. -/
import Derived.Test.YtehmojdjpmliaaaGreatDoorSp
import Derived.Test.YtehmojdjpmliaaaGreatDoorE9
import Derived.Test.YtehmojdjpmliaaaGreatDoorV1
import Derived.Test.YtehmojdjpmliaaaGreatDoorX2
set_option linter.all false
namespace Go.Scarf
open Go.RowKit Go.Proofs
end Go.Scarf
