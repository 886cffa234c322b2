/- A part of the proof. -/
import Derived.Test.YtonoededmmohhaaGreatDoorP6
set_option linter.all false
namespace Go.Scarf
end Go.Scarf
