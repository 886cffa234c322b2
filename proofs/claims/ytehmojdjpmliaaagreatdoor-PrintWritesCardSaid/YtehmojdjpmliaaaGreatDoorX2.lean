/- A part of the proof. -/
import Derived.Test.YtehmojdjpmliaaaGreatDoorC2
import Derived.Test.YtehmojdjpmliaaaGreatDoorC3
import Derived.Test.YtehmojdjpmliaaaGreatDoorP7
set_option linter.all false
namespace Go.Scarf
open Go.RowKit Go.Proofs
end Go.Scarf
