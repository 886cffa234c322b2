/- A part of the proof. -/
import Derived.Test.YtpliibolgknenaaGreatDoorE9
set_option linter.all false
namespace Go.Scarf
open Go.RowKit Go.Proofs
end Go.Scarf
