/- A part of the proof. -/
import Derived.Test.YtonoededmmohhaaGreatDoorY1
import Derived.Test.YtonoededmmohhaaGreatDoorS1
set_option linter.all false
namespace Go.Scarf
open Go.RowKit Go.Proofs
end Go.Scarf
