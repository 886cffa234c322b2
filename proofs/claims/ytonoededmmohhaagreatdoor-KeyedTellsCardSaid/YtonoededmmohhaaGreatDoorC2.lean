/- A part of the proof. -/
import Derived.Test.YtonoededmmohhaaGreatDoorP3
import Derived.Test.YtonoededmmohhaaGreatDoorW20
set_option linter.all false
namespace Go.Scarf
open Go.RowKit Go.Proofs
end Go.Scarf
