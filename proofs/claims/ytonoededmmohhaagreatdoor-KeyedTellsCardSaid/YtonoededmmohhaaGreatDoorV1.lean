/- A part of the proof. -/
import Derived.Test.YtonoededmmohhaaGreatDoorW20
import Derived.Test.YtonoededmmohhaaGreatDoorP1
set_option linter.all false
namespace Go.Scarf
open Go.RowKit Go.Proofs
end Go.Scarf
