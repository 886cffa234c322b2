/- A part of the proof. -/
import Derived.Test.YtehmojdjpmliaaaGreatDoorRow
import Derived.Test.YtehmojdjpmliaaaGreatDoorP3
import Derived.JoinedCond
set_option linter.all false
namespace Go.Scarf
open Go.RowKit Go.Proofs Go.Proofs.YtehmojdjpmliaaaGreatDoor
set_option maxRecDepth 100000
set_option linter.all false
section
variable {H : Type} {enc : TypeId × Value → H} {W : World} {base : Nat} {sp : Nat → Bool} {held : Bool}
open Go.ChangeShapes Go.WideShapes Go.ChangeAt Go.Lib Go.Shelf Go.WideMaps Go.ChangeMaps
end
end Go.Scarf
