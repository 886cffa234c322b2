/- A part of the proof. -/
import Derived.Test.YtpliibolgknenaaGreatDoorE4
import Derived.Test.YtpliibolgknenaaGreatDoorW19
import Derived.Test.YtpliibolgknenaaGreatDoorP3
set_option linter.all false
namespace Go.Scarf
open Go.RowKit Go.Proofs
end Go.Scarf
