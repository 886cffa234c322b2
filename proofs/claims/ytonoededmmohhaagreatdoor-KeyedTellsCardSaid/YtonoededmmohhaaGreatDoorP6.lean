/- A part of the proof. -/
import Derived.Test.YtonoededmmohhaaGreatDoorP5
set_option linter.all false
namespace Go.Scarf
end Go.Scarf
