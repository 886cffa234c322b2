/- A part of the proof. -/
import Derived.Test.YtehmojdjpmliaaaGreatDoorP3
import Derived.Test.YtehmojdjpmliaaaGreatDoorW20
set_option linter.all false
namespace Go.Scarf
open Go.RowKit Go.Proofs
end Go.Scarf
