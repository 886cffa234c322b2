/- A part of the proof. -/
import Derived.Test.YtonoededmmohhaaGreatDoorE7
import Derived.Test.YtonoededmmohhaaGreatDoorP1
set_option linter.all false
namespace Go.Scarf
open Go.RowKit Go.Proofs
end Go.Scarf
