/- A part of the proof. -/
import Derived.Test.YtonoededmmohhaaGreatDoorE14
import Derived.Test.YtonoededmmohhaaGreatDoorE12
set_option linter.all false
namespace Go.Scarf
open Go.RowKit Go.Proofs
end Go.Scarf
