/- A part of the proof. -/
import Derived.Test.YtehmojdjpmliaaaGreatDoorX2
import Derived.Test.YtehmojdjpmliaaaGreatDoorRow2
set_option linter.all false
namespace Go.Scarf
open Go.RowKit Go.Proofs
end Go.Scarf
