/- A part of the proof. -/
import Derived.Test.YtehmojdjpmliaaaGreatDoorP6
set_option linter.all false
namespace Go.Scarf
end Go.Scarf
