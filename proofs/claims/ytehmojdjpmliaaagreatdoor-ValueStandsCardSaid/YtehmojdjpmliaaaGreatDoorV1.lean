/- A part of the proof. -/
import Derived.Test.YtehmojdjpmliaaaGreatDoorW20
import Derived.Test.YtehmojdjpmliaaaGreatDoorP1
set_option linter.all false
namespace Go.Scarf
open Go.RowKit Go.Proofs
end Go.Scarf
