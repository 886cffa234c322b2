/- A part of the proof. -/
import Derived.Test.YtonoededmmohhaaGreatDoorE12
import Derived.Test.YtonoededmmohhaaGreatDoorX4
set_option linter.all false
namespace Go.Scarf
open Go.RowKit Go.Proofs
end Go.Scarf
