/- A part of the proof. -/
import Derived.Test.YteedfdfinodcaaaGreatDoorShelf
set_option linter.all false
namespace Go.Proofs
open Tryz
open Go.Shelf

end Go.Proofs
