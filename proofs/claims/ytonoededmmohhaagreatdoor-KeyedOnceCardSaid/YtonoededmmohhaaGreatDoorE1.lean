/- A part of the proof. -/
import Derived.Test.YtonoededmmohhaaGreatDoorW4
import Derived.Test.YtonoededmmohhaaGreatDoorW20
import Derived.Lib.DecodeN
import Derived.Test.YtonoededmmohhaaGreatDoorW2
import Derived.Lib.ItoaMem
set_option linter.all false
namespace Go.Scarf
open Go.RowKit Go.Proofs
end Go.Scarf
namespace Go.Scarf
open Go.RowKit Go.Proofs
end Go.Scarf
namespace Go.Scarf
open Go.RowKit Go.Proofs
end Go.Scarf
