/- A part of the proof. -/
import Derived.Test.YtonoededmmohhaaGreatDoorC2
import Derived.Test.YtonoededmmohhaaGreatDoorC3
import Derived.Test.YtonoededmmohhaaGreatDoorP7
set_option linter.all false
namespace Go.Scarf
open Go.RowKit Go.Proofs
end Go.Scarf
