/- A part of the proof. -/
import Derived.Test.YtpliibolgknenaaGreatDoorW4
import Derived.Test.YtpliibolgknenaaGreatDoorW20
import Derived.Lib.DecodeN
import Derived.Test.YtpliibolgknenaaGreatDoorW2
import Derived.Lib.ItoaMem
set_option linter.all false
namespace Go.Scarf
open Go.RowKit Go.Proofs
end Go.Scarf
namespace Go.Scarf
open Go.RowKit Go.Proofs
end Go.Scarf
namespace Go.Scarf
open Go.RowKit Go.Proofs
end Go.Scarf
