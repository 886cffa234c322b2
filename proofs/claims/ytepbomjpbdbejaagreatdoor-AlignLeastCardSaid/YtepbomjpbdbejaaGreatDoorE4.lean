/- A part of the proof. -/
import Derived.Test.YtepbomjpbdbejaaGreatDoorE1
import Derived.Test.YtepbomjpbdbejaaGreatDoorP1
import Derived.Lib.ParseIntBCases
set_option linter.all false
set_option maxHeartbeats 8000000
set_option maxRecDepth 10000
namespace Go.Scarf
open Go.RowKit Go.Proofs
end Go.Scarf
namespace Go.Scarf
open Go.RowKit Go.Proofs
theorem all_cons {c : UInt8} {s : Str} (h : (c :: s).all Nh = true) : Nh c = true ∧ s.all Nh = true := by simpa using h
end Go.Scarf
namespace Go.Scarf
open Go.RowKit Go.Proofs
end Go.Scarf
