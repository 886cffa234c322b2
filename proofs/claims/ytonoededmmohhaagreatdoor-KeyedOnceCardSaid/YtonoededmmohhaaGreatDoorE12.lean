/- A part of the proof. -/
import Derived.Test.YtonoededmmohhaaGreatDoorE11
import Derived.Test.YtonoededmmohhaaGreatDoorW16
import Derived.Test.YtonoededmmohhaaGreatDoorS2
set_option linter.all false
namespace Go.Scarf
open Go.RowKit Go.Proofs
section
variable {α : Type} {f : α → α → Int} {xs ys : List α} {j : Nat} {Q q r : Int}
end
end Go.Scarf
namespace Go.Scarf
open Go.RowKit Go.Proofs
end Go.Scarf
