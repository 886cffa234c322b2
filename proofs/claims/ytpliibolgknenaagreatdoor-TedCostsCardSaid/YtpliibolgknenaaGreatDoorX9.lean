/- A part of the proof. -/
import Derived.Test.YtpliibolgknenaaGreatDoorZ14
set_option linter.all false
namespace Go.Scarf
open Go.RowKit Go.Proofs
theorem nb_right {b : Bool} (h : (!b) = false) : b = true := by simpa using h
end Go.Scarf
