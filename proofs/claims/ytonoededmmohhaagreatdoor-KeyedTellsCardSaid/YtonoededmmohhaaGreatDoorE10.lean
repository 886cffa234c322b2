/- A part of the proof. -/
import Derived.Test.YtonoededmmohhaaGreatDoorE9
set_option linter.all false
namespace Go.Scarf
open Go.RowKit Go.Proofs
end Go.Scarf
