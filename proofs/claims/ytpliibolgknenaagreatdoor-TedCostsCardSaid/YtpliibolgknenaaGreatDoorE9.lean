/- A part of the proof. -/
import Derived.Test.YtpliibolgknenaaGreatDoorE7
import Derived.Test.YtpliibolgknenaaGreatDoorP1
set_option linter.all false
namespace Go.Scarf
open Go.RowKit Go.Proofs
end Go.Scarf
