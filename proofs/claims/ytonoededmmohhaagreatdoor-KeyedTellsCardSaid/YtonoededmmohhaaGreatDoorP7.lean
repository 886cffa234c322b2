/- A part of the proof. -/
import Derived.Test.YtonoededmmohhaaGreatDoorP6
set_option linter.all false
namespace Go.Scarf
def nl (s : Str) : Nat := s.count 10
end Go.Scarf
