/- A part of the proof. -/
import Derived.Shelf.SlIter.Nil
import Derived.Shelf.SortM.Plain
import Derived.Shelf.SortM.SortNone
import Derived.Test.YtbhneplafiapdaaGreatDoorProg
set_option linter.all false
namespace Go.Proofs
open Tryz
open Go.RowKit Go.Maps Go.Sort Go.Shelf
end Go.Proofs
