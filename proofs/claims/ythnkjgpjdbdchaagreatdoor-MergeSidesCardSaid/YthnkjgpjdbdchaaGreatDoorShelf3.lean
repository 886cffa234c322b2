/- A part of the proof. -/
import Derived.Shelf.Sort.Plain
import Derived.Shelf.Unicode.Decode
import Derived.Test.YthnkjgpjdbdchaaGreatDoorShelf
set_option linter.all false
namespace Go.Proofs
open Tryz
open Go.Shelf
end Go.Proofs
